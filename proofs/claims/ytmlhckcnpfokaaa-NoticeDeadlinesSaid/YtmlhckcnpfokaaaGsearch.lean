/- sort.Search and sort.SearchInts return exactly what the binary search 'bs' returns: no condition but that the closure (the slice) answers as told. -/
import Derived.Test.YtmlhckcnpfokaaaE0
import Derived.Shelf.Abstract
import Derived.Test.YtmlhckcnpfokaaaGcalm
namespace Go.Proofs.Ytmlhckcnpfokaaa.Hw
open Go.RowKit Go.Proofs.YtmlhckcnpfokaaaW.PrintWords Go.Proofs.YtmlhckcnpfokaaaW.PrintLast Go.Proofs.YtmlhckcnpfokaaaW.PrintMore
set_option linter.unusedVariables false

open Hm (bs bsGo bsGo_done)

set_option maxHeartbeats 4000000 in
set_option maxRecDepth 100000 in
theorem search_any (g : Nat) (cb : Array Value) (n : Nat) (p : Nat → Bool) (w : World) (eg : ∀ args w, (callFunc g args).run Try.prog w = .ok (.enter g args) w) (hn : n < 4611686018427387904)
    (hf : ∀ (W : World) (i : Nat), Below w.heap.size w W → i < n → Calls Try.prog g (#[.int .i64 i] ++ cb) W fun e w' => e = .returned (.bool (p i)) ∧ Below W.heap.size W w') :
    Calls Try.prog 41 #[.int .i64 n, .func (.func g) #[] cb] w fun e w' => e = .returned (.int .i64 (bs p n : Nat)) ∧ Below w.heap.size w w' := by
  have HF := Aside0.mk hf
  clear hf
  obtain ⟨r, hr⟩ : ∃ r, bs p n = r := ⟨_, rfl⟩
  rw [hr]
  have R := Aside0.mk hr
  clear hr
  go_enter Try.func41, Try.ntmps41
  go_wp2
  go_loopg [5, 6] n (fun kx s5 s6 wr => ∃ (lo hi : Nat), s5 = .int .i64 lo ∧ s6 = .int .i64 hi ∧ lo ≤ hi ∧ hi ≤ n ∧ hi - lo ≤ kx ∧ Aside0 (bsGo p kx lo hi = r) ∧ Aside0 (Below w.heap.size w wr))
  case atStart => exact ⟨0, n, rfl, rfl, Nat.zero_le _, Nat.le_refl _, by omega, R, ⟨Below.refl _ _⟩⟩
  case round =>
    obtain ⟨lo, hi, rfl, rfl, hlh, hin, hg, I, HB⟩ := hrel
    by_cases hlt : lo < hi
    · obtain ⟨k1, rfl⟩ : ∃ m, gk = m + 1 := ⟨gk - 1, by omega⟩
      have hc := HF.out wr ((lo + hi) / 2) HB.out (by omega)
      rw [show (((lo + hi) / 2 : Nat) : Int) = ((lo : Int) + (hi : Int)) / 2 by omega] at hc
      have I2 := I.out
      rw [bsGo, if_pos hlt] at I2
      clear I
      cases hp : p ((lo + hi) / 2) <;> rw [hp] at hc I2
      · have I3 := Aside0.mk (show bsGo p k1 ((lo + hi) / 2 + 1) hi = r by simpa using I2)
        clear I2 hp
        go_wp2_with (go_at_fn g; refine hc.mono ?_; rintro e w' ⟨rfl, hb⟩)
        have HB2 := Aside0.mk (below_then HB.out (Below.size HB.out) hb)
        clear hb
        go_roundg k1
        case measure => omega
        case rel => exact ⟨(lo + hi) / 2 + 1, hi, by rw [show ((lo : Int) + (hi : Int)) / 2 + 1 = (((lo + hi) / 2 + 1 : Nat) : Int) by omega], rfl, by omega, hin, by omega, I3, HB2⟩
      · have I3 := Aside0.mk (show bsGo p k1 lo ((lo + hi) / 2) = r by simpa using I2)
        clear I2 hp
        go_wp2_with (go_at_fn g; refine hc.mono ?_; rintro e w' ⟨rfl, hb⟩)
        have HB2 := Aside0.mk (below_then HB.out (Below.size HB.out) hb)
        clear hb
        go_roundg k1
        case measure => omega
        case rel => exact ⟨lo, (lo + hi) / 2, rfl, by rw [show ((lo : Int) + (hi : Int)) / 2 = (((lo + hi) / 2 : Nat) : Int) by omega], by omega, by omega, by omega, I3, HB2⟩
    · obtain rfl : hi = lo := by omega
      have I2 := I.out
      rw [bsGo_done p gk hi hi (by omega)] at I2
      subst I2
      clear I R
      go_wp2
      go_ret
      exact ⟨rfl, HB.out⟩

/-- The closure of sort.SearchInts: 'a[i] >= x', a and x in their boxes. -/
theorem ints_closure (ba bx : Nat) (A : Option Addr) (c : Nat) (l : List Int) (x : Int) (i : Nat) (W : World) (hi : i < l.length) (ha : W.cell? ⟨ba, 0, none⟩ = some (.slice A l.length c)) (hx : W.cell? ⟨bx, 0, none⟩ = some (.int .i64 x)) (hr : Kd.C (Kd.int .i64) W A l.length l) :
    Calls Try.prog 49 (#[.int .i64 i] ++ #[.pointer (some ⟨ba, 0, none⟩), .pointer (some ⟨bx, 0, none⟩)]) W fun e w' => e = .returned (.bool (decide (x ≤ rd l i))) ∧ Below W.heap.size W w' := by
  obtain ⟨ad, rfl, hc⟩ := Kd.at_int hr i (by omega) (by omega)
  rw [Int.toNat_natCast] at hc
  have h0 : (0 : Int) ≤ (i : Int) := by omega
  have h1 : (i : Int) < (l.length : Int) := by omega
  generalize rd l i = y at hc ⊢
  clear hr
  show Calls Try.prog 49 #[.int .i64 i, .pointer (some ⟨ba, 0, none⟩), .pointer (some ⟨bx, 0, none⟩)] W _
  go_enter Try.func49, Try.ntmps49
  go_wp2
  go_quiet (fail)
  go_wp2
  go_ret
  exact ⟨rfl, pw_below_drewN (Below.refl _ _) _⟩

def sort_SearchInts.f (l0 : List Int) (a1 : Int) : Option Int := if l0.length < 4611686018427387904 then some (bs (fun i => decide (a1 ≤ rd l0 i)) l0.length : Nat) else none
set_option maxHeartbeats 4000000 in
set_option maxRecDepth 100000 in
theorem sort_SearchInts.calls (A0 : Option Addr) (c0 : Nat) (l0 : List Int) (a1 : Int) (r : Int) (w : World) (hr0 : Kd.C (Kd.int .i64) w A0 l0.length l0) (hc0 : l0.length ≤ c0) (h : sort_SearchInts.f l0 a1 = some r) :
    Calls Try.prog 43 #[.slice A0 l0.length c0, .int .i64 a1] w fun e w' => e = .returned (.int .i64 r) ∧ Below w.heap.size w w' := by
  unfold sort_SearchInts.f at h
  have hlen : l0.length < 4611686018427387904 := by
    by_cases hl : l0.length < 4611686018427387904
    · exact hl
    · rw [if_neg hl] at h; cases h
  rw [if_pos hlen] at h
  obtain rfl := Option.some.inj h
  clear h
  obtain ⟨W0, hW0⟩ : ∃ W0, W0 = (w.alloc (.cells #[.slice A0 l0.length c0] 25)).alloc (.cells #[.int .i64 a1] 3) := ⟨_, rfl⟩
  have hsize : W0.heap.size = w.heap.size + 1 + 1 := by rw [hW0]; simp
  have hB0 : Below w.heap.size w W0 := by rw [hW0]; exact ((Below.refl _ w).alloc (Nat.le_refl _) _).alloc (by simp) _
  have ca : W0.cell? ⟨w.heap.size, 0, none⟩ = some (.slice A0 l0.length c0) := by rw [hW0]; simp [go_sem, World.cell?_alloc_past]
  have cx : W0.cell? ⟨w.heap.size + 1, 0, none⟩ = some (.int .i64 a1) := by rw [hW0]; simp [go_sem]
  have hr := Kd.C_below hr0 hB0
  have eg : ∀ args w, (callFunc 49 args).run Try.prog w = .ok (.enter 49 args) w := enters_of Try.func49 (by kernel_rfl) rfl
  have hS := search_any 49 #[.pointer (some ⟨w.heap.size, 0, none⟩), .pointer (some ⟨w.heap.size + 1, 0, none⟩)] l0.length (fun i => decide (a1 ≤ rd l0 i)) W0 eg hlen
    (fun W i hb hi => ints_closure w.heap.size (w.heap.size + 1) A0 c0 l0 a1 i W hi (pw_cell_below hb ca) (pw_cell_below hb cx) (Kd.C_below hr hb))
  clear hr hr0 ca cx
  generalize bs (fun i => decide (a1 ≤ rd l0 i)) l0.length = r at hS ⊢
  go_enter Try.func43, Try.ntmps43
  go_wp2_with (go_at_call 41; rw [← hW0]; refine hS.mono ?_; rintro e w' ⟨rfl, hb⟩)
  go_ret
  exact ⟨rfl, below_then hB0 (by omega) hb⟩
end Go.Proofs.Ytmlhckcnpfokaaa.Hw
