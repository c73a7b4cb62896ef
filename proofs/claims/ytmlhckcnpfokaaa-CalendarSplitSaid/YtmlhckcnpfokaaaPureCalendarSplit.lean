/- CalendarSplit answers true at every days and list of holidays: counting is additive, and does not depend on the order of the holidays. No condition. -/
import Derived.Test.YtmlhckcnpfokaaaGcala
namespace Go.Proofs.Ytmlhckcnpfokaaa.Pure
open Go.RowKit F Hm Hx Go.Proofs.YtmlhckcnpfokaaaW.PrintWords Go.Proofs.YtmlhckcnpfokaaaW.PrintLast

theorem ev_succ {α : Type} {g : Nat → Option α} {r : α} (h : Ev (fun k => g (k + 1)) r) : Ev g r := Ev.step (f := fun k => g (k + 1)) (fun _ => rfl) h
theorem cnt_same (h r : List Int) (e : ∀ x, r.contains x = h.contains x) : ∀ n : Nat, cnt r n = cnt h n
  | 0 => rfl
  | n + 1 => by
    have b : bus r (n : Int) = bus h (n : Int) := by unfold bus; rw [e]
    rw [cnt, cnt, cnt_same h r e n, b]

theorem split_loop (h : List Int) (hlen : h.length ≤ 40) (a0 a1 a2 : Int) (r : Bool) (fin : Ev (fun k => insolvencylaw5_CalendarSplit.l0 k a0 a1 a2 h h.reverse (-1)) r) : ∀ (n : Nat), n ≤ h.length →
    Ev (fun k => insolvencylaw5_CalendarSplit.l0 k a0 a1 a2 h ((h.drop n).reverse) ((n : Int) - 1)) r := by
  intro n
  induction n with
  | zero => intro _; rw [List.drop_zero]; exact fin
  | succ n ih =>
    intro hn
    have e : h.drop n = h[n] :: h.drop (n + 1) := List.drop_eq_getElem_cons (by omega)
    have er : rd h (n : Int) = h[n] := rd_nat h n (by omega)
    have := ih (by omega)
    rw [e, List.reverse_cons] at this
    refine Ev.step (fun k => ?_) this
    rw [show ((n + 1 : Nat) : Int) - 1 = (n : Int) by omega, insolvencylaw5_CalendarSplit.l0, if_pos (by omega), if_pos (by omega), if_pos (by omega), if_pos (by simp; omega), er, w64 _ (by omega) (by omega)]

theorem CalendarSplit : insolvencylaw5_CalendarSplit.Pure := by
  intro a0 a1 a2 l3 hw0 hw1 hw2 _ hl hw
  obtain ⟨u0, u1⟩ := wf8 hw0
  obtain ⟨v0, v1⟩ := wf8 hw1
  obtain ⟨x0, x1⟩ := wf8 hw2
  refine Ev.rounds (g := fun k => insolvencylaw5_CalendarSplit.f k a0 a1 a2 l3) ?_
  unfold insolvencylaw5_CalendarSplit.f
  obtain ⟨h, hh, hlen⟩ := days_ev l3 hw hl
  refine Ev.bind hh ?_
  rw [w64 ((h.length : Int) - 1) (by omega) (by omega)]
  have := split_loop h hlen a0 a1 a2 true ?_ h.length (Nat.le_refl _)
  · rw [List.drop_length, List.reverse_nil] at this
    exact this
  refine ev_succ ?_
  simp only [insolvencylaw5_CalendarSplit.l0]
  refine ev_else (show ¬ (-1 : Int) ≥ 0 by omega) ?_
  rw [w64 a0 (by omega) (by omega), w64 a1 (by omega) (by omega), w64 a2 (by omega) (by omega), w64 (a0 + a1) (by omega) (by omega), w64 (a0 + a1 + a2) (by omega) (by omega)]
  obtain ⟨a, rfl⟩ := Int.eq_ofNat_of_zero_le u0
  obtain ⟨b, rfl⟩ := Int.eq_ofNat_of_zero_le v0
  obtain ⟨c, rfl⟩ := Int.eq_ofNat_of_zero_le x0
  have hnl : ¬ (h.length : Int) > 1000 := by omega
  have hnr : ¬ (h.reverse.length : Int) > 1000 := by rw [List.length_reverse]; omega
  have val : ∀ (l : List Int) (x y : Nat), ¬ (l.length : Int) > 1000 → x ≤ 1000 → y ≤ 1000 → x ≤ y → countOf l (x : Int) (y : Int) = ((cnt l y : Int) - (cnt l x : Int), 0) := by
    intro l x y hl hx hy hxy
    unfold countOf
    rw [if_neg hl, if_pos ⟨(isD_iff _).2 ⟨by omega, by omega⟩, (isD_iff _).2 ⟨by omega, by omega⟩⟩]
    by_cases e : (y : Int) ≤ (x : Int)
    · obtain rfl : x = y := by omega
      rw [if_pos e, Int.sub_self]
    · rw [if_neg e, Int.toNat_natCast, Int.toNat_natCast]
  have k1 := count_ev h (a : Int) ((a + b : Nat) : Int)
  have k2 := count_ev h.reverse ((a + b : Nat) : Int) ((a + b + c : Nat) : Int)
  have k3 := count_ev h (a : Int) ((a + b + c : Nat) : Int)
  have k4 := count_ev h ((a + b + c : Nat) : Int) (a : Int)
  rw [val h a (a + b) hnl (by omega) (by omega) (by omega)] at k1
  rw [val h.reverse (a + b) (a + b + c) hnr (by omega) (by omega) (by omega), cnt_same h h.reverse (fun x => by simp), cnt_same h h.reverse (fun x => by simp)] at k2
  rw [val h a (a + b + c) hnl (by omega) (by omega) (by omega)] at k3
  have e4 : countOf h ((a + b + c : Nat) : Int) (a : Int) = (0, 0) := by
    unfold countOf
    rw [if_neg hnl, if_pos ⟨(isD_iff _).2 ⟨by omega, by omega⟩, (isD_iff _).2 ⟨by omega, by omega⟩⟩, if_pos (by omega)]
  rw [e4] at k4
  have m1 := cnt_mono h (show a ≤ a + b by omega)
  have m2 := cnt_mono h (show a + b ≤ a + b + c by omega)
  have m3 := cnt_le h (a + b + c)
  rw [show (a : Int) + (b : Int) = ((a + b : Nat) : Int) by omega, show ((a + b : Nat) : Int) + (c : Int) = ((a + b + c : Nat) : Int) by omega]
  refine Ev.bind k1 (Ev.bind k2 (Ev.bind k3 (Ev.bind k4 (Ev.bind awake_ev (ev_if rfl (ev_if rfl (ev_if rfl (ev_if rfl (ev_if rfl (ev_if ?_ (ev_if rfl (Ev.now true))))))))))))
  show wrap64 (((cnt h (a + b) : Int) - (cnt h a : Int)) + ((cnt h (a + b + c) : Int) - (cnt h (a + b) : Int))) = (cnt h (a + b + c) : Int) - (cnt h a : Int)
  rw [w64 _ (by omega) (by omega)]
  omega
end Go.Proofs.Ytmlhckcnpfokaaa.Pure
