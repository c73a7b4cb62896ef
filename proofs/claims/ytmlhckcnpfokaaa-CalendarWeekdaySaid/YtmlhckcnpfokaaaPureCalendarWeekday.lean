/- CalendarWeekday answers true at every int. No condition. -/
import Derived.Test.YtmlhckcnpfokaaaGcala
namespace Go.Proofs.Ytmlhckcnpfokaaa.Pure
open Go.RowKit F Hm Hx Go.Proofs.YtmlhckcnpfokaaaW.PrintWords Go.Proofs.YtmlhckcnpfokaaaW.PrintLast

theorem CalendarWeekday : insolvencylaw5_CalendarWeekday.Pure := by
  intro a0 hw
  obtain ⟨w0, w1⟩ := wf64 hw
  refine Ev.rounds (g := fun k => insolvencylaw5_CalendarWeekday.f k a0) ?_
  unfold insolvencylaw5_CalendarWeekday.f
  refine ev_then (weekday_some a0) ?_
  by_cases h : a0 > 4611686018427387904
  · exact ev_if h (Ev.bind awake_ev (ev_if rfl (ev_then (refWeekday_some a0) (ev_if rfl (ev_if (by omega) (ev_if (by omega) (Ev.now true)))))))
  · refine ev_else h ?_
    rw [w64 (a0 + 7) (by omega) (by omega)]
    refine ev_then (weekday_some (a0 + 7)) (Ev.bind awake_ev (ev_if rfl (ev_then (refWeekday_some a0) (ev_if rfl (ev_if (by omega) (ev_if (by omega) ?_))))))
    exact ev_const (by rw [show ((a0 + 7) % 7 == a0 % 7) = true from by rw [beq_iff_eq]; omega])
end Go.Proofs.Ytmlhckcnpfokaaa.Pure
