/- CalendarBusiness answers true at every int and every list of holidays. No condition. -/
import Derived.Test.YtmlhckcnpfokaaaGcala
namespace Go.Proofs.Ytmlhckcnpfokaaa.Pure
open Go.RowKit F Hm Hx Go.Proofs.YtmlhckcnpfokaaaW.PrintWords Go.Proofs.YtmlhckcnpfokaaaW.PrintLast

theorem CalendarBusiness : insolvencylaw5_CalendarBusiness.Pure := by
  intro a0 l1 _ _ hl _
  refine Ev.rounds (g := fun k => insolvencylaw5_CalendarBusiness.f k a0 l1) ?_
  unfold insolvencylaw5_CalendarBusiness.f
  by_cases h : (l1.length : Int) > 200
  · exact ev_if h (Ev.bind (f := fun _ t => some t) awake_ev (Ev.now true))
  · refine ev_else h (Ev.bind awake_ev (ev_if rfl (Ev.bind (bus_ev l1 a0 (by omega)) (Ev.bind (refBus_ev l1 a0 (by omega)) ?_))))
    exact ev_const (by simp)
end Go.Proofs.Ytmlhckcnpfokaaa.Pure
