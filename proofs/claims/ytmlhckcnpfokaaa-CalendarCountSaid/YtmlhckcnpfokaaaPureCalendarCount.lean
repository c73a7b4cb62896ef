/- CalendarCount answers true at every two days and every list of holidays. No condition. -/
import Derived.Test.YtmlhckcnpfokaaaGcala
namespace Go.Proofs.Ytmlhckcnpfokaaa.Pure
open Go.RowKit F Hm Hx Go.Proofs.YtmlhckcnpfokaaaW.PrintWords Go.Proofs.YtmlhckcnpfokaaaW.PrintLast

theorem CalendarCount : insolvencylaw5_CalendarCount.Pure := by
  intro a0 a1 l2 _ _ _ _ _
  refine Ev.rounds (g := fun k => insolvencylaw5_CalendarCount.f k a0 a1 l2) ?_
  unfold insolvencylaw5_CalendarCount.f
  obtain ⟨d, hd⟩ := near_some a0
  obtain ⟨e, he⟩ := near_some a1
  refine ev_then hd (ev_then he ?_)
  have all : ∀ b : Bool, Ev (fun k => insolvencylaw5_CalendarCount.j0 k l2 d e b) true := by
    intro b
    cases b with
    | true =>
      refine Ev.step (f := fun k => (insolvencylaw5_awake.f k).bind fun t155 => some t155) (fun k => ?_) (Ev.bind (f := fun _ t => some t) awake_ev (Ev.now true))
      rw [insolvencylaw5_CalendarCount.j0, if_pos rfl]
    | false =>
      refine Ev.step (f := fun k => (calendar_Count.f k d e l2).bind fun bt190 => ((insolvencyref1_CountDays.f k d e l2).bind fun bt192 => ((insolvencylaw5_awake.f k).bind fun t194 => (if t194 = true then (if bt190.1 = bt192.1 then (some (bt190.2 == bt192.2)) else (none)) else (none))))) (fun k => ?_) (Ev.bind (count_ev l2 d e) (Ev.bind (refCount_ev l2 d e) (Ev.bind awake_ev (ev_if rfl (ev_if rfl ?_)))))
      · rw [insolvencylaw5_CalendarCount.j0, if_neg (by simp)]
      · exact ev_const (by simp)
  by_cases h : (l2.length : Int) > 100
  · exact ev_if h (all _)
  · refine ev_else h (ev_then (refDay_some d) ?_)
    by_cases h2 : isD d = true
    · refine ev_if h2 (ev_then (refDay_some e) ?_)
      by_cases h3 : isD e = true
      · exact ev_if h3 (all _)
      · exact ev_else h3 (all _)
    · exact ev_else h2 (all _)
end Go.Proofs.Ytmlhckcnpfokaaa.Pure
