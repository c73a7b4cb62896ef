/- CalendarNext answers true at every day and every list of holidays. No condition. -/
import Derived.Test.YtmlhckcnpfokaaaGcala
namespace Go.Proofs.Ytmlhckcnpfokaaa.Pure
open Go.RowKit F Hm Hx Go.Proofs.YtmlhckcnpfokaaaW.PrintWords Go.Proofs.YtmlhckcnpfokaaaW.PrintLast

theorem CalendarNext : insolvencylaw5_CalendarNext.Pure := by
  intro a0 l1 _ _ _ _
  refine Ev.rounds (g := fun k => insolvencylaw5_CalendarNext.f k a0 l1) ?_
  unfold insolvencylaw5_CalendarNext.f
  by_cases h : (l1.length : Int) > 200
  · exact ev_if h (Ev.bind (f := fun _ t => some t) awake_ev (Ev.now true))
  · refine ev_else h ?_
    obtain ⟨d, hd⟩ := near_some a0
    obtain ⟨r, h1, h2, _⟩ := adds l1 d 0
    refine ev_then hd (Ev.bind (next_ev h1) (Ev.bind (refNext_ev h2) (Ev.bind awake_ev (ev_if rfl (ev_if rfl ?_)))))
    exact ev_const (by simp)
end Go.Proofs.Ytmlhckcnpfokaaa.Pure
