/- CalendarAdd answers true at every day, number and list of holidays. No condition. -/
import Derived.Test.YtmlhckcnpfokaaaGcala
namespace Go.Proofs.Ytmlhckcnpfokaaa.Pure
open Go.RowKit F Hm Hx Go.Proofs.YtmlhckcnpfokaaaW.PrintWords Go.Proofs.YtmlhckcnpfokaaaW.PrintLast

theorem CalendarAdd : insolvencylaw5_CalendarAdd.Pure := by
  intro a0 a1 l2 _ _ _ _ _
  refine Ev.rounds (g := fun k => insolvencylaw5_CalendarAdd.f k a0 a1 l2) ?_
  unfold insolvencylaw5_CalendarAdd.f
  obtain ⟨d, hd⟩ := near_some a0
  refine ev_then hd ?_
  have all : ∀ b : Bool, Ev (fun k => insolvencylaw5_CalendarAdd.j0 k a1 l2 d b) true := by
    intro b
    cases b with
    | true =>
      refine Ev.step (f := fun k => (insolvencylaw5_awake.f k).bind fun t155 => some t155) (fun k => ?_) (Ev.bind (f := fun _ t => some t) awake_ev (Ev.now true))
      rw [insolvencylaw5_CalendarAdd.j0, if_pos rfl]
    | false =>
      obtain ⟨r, h1, h2, _⟩ := adds l2 d a1
      refine Ev.step (f := fun k => (calendar_Add.f k d a1 l2).bind fun bt156 => ((insolvencyref1_AddDays.f k d a1 l2).bind fun bt158 => ((insolvencylaw5_awake.f k).bind fun t160 => (if t160 = true then (if bt156.1 = bt158.1 then (some (bt156.2 == bt158.2)) else (none)) else (none))))) (fun k => ?_) (Ev.bind h1 (Ev.bind h2 (Ev.bind awake_ev (ev_if rfl (ev_if rfl ?_)))))
      · rw [insolvencylaw5_CalendarAdd.j0, if_neg (by simp)]
      · exact ev_const (by simp)
  by_cases h : (l2.length : Int) > 200
  · exact ev_if h (all _)
  · refine ev_else h ?_
    by_cases h2 : a1 > 2000
    · exact ev_if h2 (all _)
    · exact ev_else h2 (all _)
end Go.Proofs.Ytmlhckcnpfokaaa.Pure
