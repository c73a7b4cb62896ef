/- CalendarMany answers true at every number: just the lists of at most 1000 holidays are accepted. No condition. -/
import Derived.Test.YtmlhckcnpfokaaaGcala
namespace Go.Proofs.Ytmlhckcnpfokaaa.Pure
open Go.RowKit F Hm Hx Go.Proofs.YtmlhckcnpfokaaaW.PrintWords Go.Proofs.YtmlhckcnpfokaaaW.PrintLast

theorem CalendarMany : insolvencylaw5_CalendarMany.Pure := by
  intro a0 hw
  obtain ⟨w0, w1⟩ := wf16 hw
  refine Ev.rounds (g := fun k => insolvencylaw5_CalendarMany.f k a0) ?_
  unfold insolvencylaw5_CalendarMany.f
  rw [w64 a0 (by omega) (by omega), tmod_pos a0 2000 w0]
  refine ev_if (by omega) (ev_if (by omega) (ev_then rfl ?_))
  obtain ⟨l, hl⟩ : ∃ l, l = List.replicate (a0 % 2000).toNat (0 : Int) := ⟨_, rfl⟩
  rw [← hl]
  have hlen : l.length ≤ 1999 := by rw [hl, List.length_replicate]; omega
  clear hl
  obtain ⟨r1, h1, _, k1⟩ := adds l 1 0
  obtain ⟨r2, h2, _, k2⟩ := adds l 1 3
  have h3 := count_ev l 1 9
  refine Ev.bind (next_ev h1) (Ev.bind h2 (Ev.bind h3 ?_))
  by_cases h : (l.length : Int) > 1000
  · obtain rfl := (IsAdd.long h).unique k1
    obtain rfl := (IsAdd.long h).unique k2
    have e3 : countOf l 1 9 = (0, 2) := by unfold countOf; rw [if_pos h]
    rw [e3]
    exact ev_if h (Ev.bind awake_ev (ev_if rfl (ev_if rfl (ev_if rfl (ev_const (by decide))))))
  · refine ev_else h (Ev.bind awake_ev (ev_if rfl ?_))
    have low := cnt_low l 1048577 (by omega)
    rw [wk_big] at low
    have c1 := cnt_le l 1
    have c2 := cnt_le l 2
    have g1 : r1.2 = 0 := by
      unfold IsAdd at k1
      rw [if_neg h, if_pos ⟨by decide, by omega, by omega⟩] at k1
      obtain ⟨d, _, rfl, _⟩ := res_day k1 (by unfold mOf; rw [if_pos rfl]; show (cnt l 1 : Int) < _; omega)
      rfl
    have g2 : r2.2 = 0 := by
      unfold IsAdd at k2
      rw [if_neg h, if_pos ⟨by decide, by omega, by omega⟩] at k2
      obtain ⟨d, _, rfl, _⟩ := res_day k2 (by unfold mOf; rw [if_neg (by omega)]; show (cnt l 2 : Int) + 3 - 1 < _; omega)
      rfl
    have g3 : (countOf l 1 9).2 = 0 := by
      unfold countOf
      rw [if_neg h, if_pos ⟨by decide, by decide⟩, if_neg (by omega)]
    exact ev_if g1 (ev_if g2 (ev_const (by rw [g3]; decide)))
end Go.Proofs.Ytmlhckcnpfokaaa.Pure
