/- CalendarSteps answers true at every day, numbers and list of holidays: business days are added one after the other. No condition. -/
import Derived.Test.YtmlhckcnpfokaaaGcala
namespace Go.Proofs.Ytmlhckcnpfokaaa.Pure
open Go.RowKit F Hm Hx Go.Proofs.YtmlhckcnpfokaaaW.PrintWords Go.Proofs.YtmlhckcnpfokaaaW.PrintLast

theorem CalendarSteps : insolvencylaw5_CalendarSteps.Pure := by
  intro a0 a1 a2 l3 hw0 hw1 hw2 _ hl hw
  obtain ⟨u0, u1⟩ := wf8 hw0
  obtain ⟨v0, v1⟩ := wf8 hw1
  obtain ⟨x0, x1⟩ := wf8 hw2
  refine Ev.rounds (g := fun k => insolvencylaw5_CalendarSteps.f k a0 a1 a2 l3) ?_
  unfold insolvencylaw5_CalendarSteps.f
  obtain ⟨h, hh, hlen⟩ := days_ev l3 hw hl
  refine Ev.bind hh ?_
  rw [w64 a0 (by omega) (by omega), tmod_pos a1 30 v0, tmod_pos a2 30 x0, w64 (a1 % 30) (by omega) (by omega), w64 (a2 % 30) (by omega) (by omega), w64 (1 + a1 % 30) (by omega) (by omega), w64 (_ + a2 % 30) (by omega) (by omega)]
  obtain ⟨d, rfl⟩ := Int.eq_ofNat_of_zero_le u0
  obtain ⟨n, hn⟩ : ∃ n, n = 1 + a1 % 30 := ⟨_, rfl⟩
  obtain ⟨m, hm⟩ : ∃ m, m = a2 % 30 := ⟨_, rfl⟩
  rw [← hn, ← hm]
  have n0 : 1 ≤ n := by omega
  have n1 : n ≤ 30 := by omega
  have m0 : 0 ≤ m := by omega
  have m1 : m ≤ 29 := by omega
  clear hn hm
  have low := cnt_low h 1048577 (by omega)
  rw [wk_big] at low
  have c1 := cnt_le h (d + 1)
  have hnl : ¬ (h.length : Int) > 1000 := by omega
  obtain ⟨r1, h1, k1⟩ := add_ev h (d : Int) n
  unfold IsAdd at k1
  rw [if_neg hnl, if_pos ⟨(isD_iff _).2 ⟨by omega, by omega⟩, by omega, by omega⟩] at k1
  obtain ⟨x, hx, rfl, e1, e2⟩ := res_day k1 (by unfold mOf; rw [if_neg (show ¬ n = 0 by omega), Int.toNat_natCast]; omega)
  obtain ⟨r2, h2, k2⟩ := add_ev h (x : Int) m
  obtain ⟨r3, h3, k3⟩ := add_ev h (d : Int) (n + m)
  unfold IsAdd at k2 k3
  rw [if_neg hnl, if_pos ⟨(isD_iff _).2 ⟨by omega, by omega⟩, by omega, by omega⟩] at k2 k3
  have em : mOf h (x : Int) m = mOf h (d : Int) (n + m) := by
    unfold mOf at e1 e2 ⊢
    rw [Int.toNat_natCast] at e1 e2 ⊢
    rw [Int.toNat_natCast]
    rw [if_neg (show ¬ n = 0 by omega)] at e1 e2
    rw [if_neg (show ¬ n + m = 0 by omega)]
    by_cases hm0 : m = 0
    · rw [if_pos hm0]; omega
    · rw [if_neg hm0]; omega
  rw [em] at k2
  obtain rfl := k2.unique k3
  obtain ⟨y, _, rfl, _⟩ := res_day k2 (by unfold mOf; rw [if_neg (show ¬ n + m = 0 by omega), Int.toNat_natCast]; omega)
  exact Ev.bind h1 (Ev.bind h2 (Ev.bind h3 (Ev.bind awake_ev (ev_if rfl (ev_if rfl (ev_if rfl (ev_if rfl (ev_const (by simp)))))))))
end Go.Proofs.Ytmlhckcnpfokaaa.Pure
