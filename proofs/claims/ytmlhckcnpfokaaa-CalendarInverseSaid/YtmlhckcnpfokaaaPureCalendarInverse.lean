/- CalendarInverse answers true at every day, number and list of holidays: as many business days are counted as were added. No condition. -/
import Derived.Test.YtmlhckcnpfokaaaGcala
namespace Go.Proofs.Ytmlhckcnpfokaaa.Pure
open Go.RowKit F Hm Hx Go.Proofs.YtmlhckcnpfokaaaW.PrintWords Go.Proofs.YtmlhckcnpfokaaaW.PrintLast

theorem CalendarInverse : insolvencylaw5_CalendarInverse.Pure := by
  intro a0 a1 l2 hw0 hw1 _ hl hw
  obtain ⟨u0, u1⟩ := wf8 hw0
  obtain ⟨v0, v1⟩ := wf8 hw1
  refine Ev.rounds (g := fun k => insolvencylaw5_CalendarInverse.f k a0 a1 l2) ?_
  unfold insolvencylaw5_CalendarInverse.f
  obtain ⟨h, hh, hlen⟩ := days_ev l2 hw hl
  refine Ev.bind hh ?_
  rw [w64 a0 (by omega) (by omega), tmod_pos a1 60 v0, w64 (a1 % 60) (by omega) (by omega), w64 (1 + a1 % 60) (by omega) (by omega), w64 (a0 + 1) (by omega) (by omega)]
  obtain ⟨d, rfl⟩ := Int.eq_ofNat_of_zero_le u0
  obtain ⟨n, hn⟩ : ∃ n, n = 1 + a1 % 60 := ⟨_, rfl⟩
  rw [← hn]
  have n0 : 1 ≤ n := by omega
  have n1 : n ≤ 60 := by omega
  clear hn
  have low := cnt_low h 1048577 (by omega)
  rw [wk_big] at low
  have c1 := cnt_le h (d + 1)
  have hnl : ¬ (h.length : Int) > 1000 := by omega
  obtain ⟨r1, h1, k1⟩ := add_ev h (d : Int) n
  unfold IsAdd at k1
  rw [if_neg hnl, if_pos ⟨(isD_iff _).2 ⟨by omega, by omega⟩, by omega, by omega⟩] at k1
  obtain ⟨x, hx, rfl, e1, e2⟩ := res_day k1 (by unfold mOf; rw [if_neg (by omega), Int.toNat_natCast]; omega)
  unfold mOf at e1 e2
  rw [if_neg (by omega), Int.toNat_natCast] at e1 e2
  have lowx := cnt_low h x (by omega)
  have hwx : x ≤ 7 * wk x / 5 + 7 := by unfold wk; omega
  have hxd : d + 1 < x + 1 := by
    rcases Nat.lt_or_ge (d + 1) (x + 1) with z | z
    · exact z
    · have := cnt_mono h z; omega
  have hc := count_ev h ((d : Int) + 1) ((x : Int) + 1)
  have ec : countOf h ((d : Int) + 1) ((x : Int) + 1) = (n, 0) := by
    unfold countOf
    rw [if_neg hnl, if_pos ⟨(isD_iff _).2 ⟨by omega, by omega⟩, (isD_iff _).2 ⟨by omega, by omega⟩⟩, if_neg (by omega)]
    rw [show ((d : Int) + 1).toNat = d + 1 by omega, show ((x : Int) + 1).toNat = x + 1 by omega, e2]
    congr 1
    omega
  rw [ec] at hc
  have hb : bus h (x : Int) = true := by
    have : cnt h (x + 1) = cnt h x + if bus h (x : Int) = true then 1 else 0 := rfl
    by_cases z : bus h (x : Int) = true
    · exact z
    · rw [if_neg z] at this; omega
  refine Ev.bind h1 ?_
  show Ev (fun k => (calendar_Count.f k ((d : Int) + 1) (wrap64 ((x : Int) + 1)) h).bind _) true
  rw [w64 ((x : Int) + 1) (by omega) (by omega)]
  refine Ev.bind hc (Ev.bind awake_ev (ev_if rfl (ev_if rfl (ev_if rfl (ev_if rfl ?_)))))
  have hbe := bus_ev h (x : Int) (by omega)
  rw [hb] at hbe
  exact Ev.bind (f := fun _ t => some t) hbe (Ev.now true)
end Go.Proofs.Ytmlhckcnpfokaaa.Pure
