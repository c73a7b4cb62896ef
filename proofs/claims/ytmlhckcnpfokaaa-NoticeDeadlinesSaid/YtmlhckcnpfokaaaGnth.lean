/- calendar's nth returns exactly the first day that the binary search 'bs' finds, or 0 and ErrRange: no condition. -/
import Derived.Test.YtmlhckcnpfokaaaE1
import Derived.Test.YtmlhckcnpfokaaaGsearch
namespace Go.Proofs.Ytmlhckcnpfokaaa.Hw
open Go.RowKit Go.Proofs.YtmlhckcnpfokaaaW.PrintWords Go.Proofs.YtmlhckcnpfokaaaW.PrintLast Go.Proofs.YtmlhckcnpfokaaaW.PrintMore
set_option linter.unusedVariables false

open Hm (bs)
/-- What the closure of nth says of a day. -/
def nthP (l : List Int) (n : Int) (d : Nat) : Bool := decide (n < (E.calendar_closed_before.f l ((d : Int) + 1)).getD 0)
def calendar_closed_nth.f (l0 : List Int) (a1 : Int) : Option (Int × Int) :=
  if l0.length < 4611686018427387904 then (if (bs (nthP l0 a1) 1048577 : Int) > 1048576 then some (0, 1) else some (((bs (nthP l0 a1) 1048577 : Nat) : Int), 0)) else none

theorem before_some (l : List Int) (x : Int) (h : l.length < 4611686018427387904) : E.calendar_closed_before.f l x = some ((E.calendar_closed_before.f l x).getD 0) := by
  simp [E.calendar_closed_before.f, sort_SearchInts.f, h]

set_option maxHeartbeats 4000000 in
set_option maxRecDepth 100000 in
theorem nth_closure (bc bn : Nat) (A : Option Addr) (c : Nat) (l : List Int) (x : Int) (i : Nat) (W : World) (hi : i < 1048577) (hlen : l.length < 4611686018427387904) (hlc : l.length ≤ c) (ha : W.cell? ⟨bc, 0, none⟩ = some (.slice A l.length c)) (hx : W.cell? ⟨bn, 0, none⟩ = some (.int .i64 x)) (hr : Kd.C (Kd.int .i64) W A l.length l) :
    Calls Try.prog 42 (#[.int .i64 i] ++ #[.pointer (some ⟨bc, 0, none⟩), .pointer (some ⟨bn, 0, none⟩)]) W fun e w' => e = .returned (.bool (nthP l x i)) ∧ Below W.heap.size W w' := by
  have hB := before_some l ((i : Int) + 1) hlen
  unfold nthP
  generalize (E.calendar_closed_before.f l ((i : Int) + 1)).getD 0 = y at hB ⊢
  have HR := Aside0.mk hr
  have HBF := Aside0.mk hB
  have HL := Aside0.mk hlc
  clear hr hB hlc
  have h0 : (0 : Int) ≤ (i : Int) := by omega
  have h1 : (i : Int) ≤ 1048576 := by omega
  have hwr : IntKind.i64.wrap ((i : Int) + 1) = (i : Int) + 1 := by rw [IntKind.wrap_i64]; omega
  show Calls Try.prog 42 #[.int .i64 i, .pointer (some ⟨bc, 0, none⟩), .pointer (some ⟨bn, 0, none⟩)] W _
  go_enter Try.func42, Try.ntmps42
  go_wp2
  go_region_held3 (fun w' => w'.cell? ⟨bc, 0, none⟩ = some (.slice A l.length c) ∧ w'.cell? ⟨bn, 0, none⟩ = some (.int .i64 x)) (first | exact ⟨pw_cell_below hb ha, pw_cell_below hb hx⟩ | (refine ⟨?_, ?_⟩ <;> (first | exact pw_cell_below hb ha | exact pw_cell_below hb hx | go_keep)) | go_keep)
    (first | (go_at_call 35; refine (E.calendar_closed_before.calls A c l _ y _ ?_ HL.out ?_).mono ?_; (exact Kd.C_drewN HR.out _); (exact HBF.out); rintro e w' ⟨rfl, hb⟩))
  go_wp2
  go_ret
  exact ⟨rfl, below_then (below_drew (Below.refl _ _)) (Nat.le_refl _) hb⟩

set_option maxHeartbeats 4000000 in
set_option maxRecDepth 100000 in
theorem calendar_closed_nth.calls (A0 : Option Addr) (c0 : Nat) (l0 : List Int) (a1 : Int) (r1 : Int) (r2 : Int) (w : World) (hr0 : Kd.C (Kd.int .i64) w A0 l0.length l0) (hc0 : l0.length ≤ c0) (h : calendar_closed_nth.f l0 a1 = some (r1, r2)) :
    Calls Try.prog 34 #[.slice A0 l0.length c0, .int .i64 a1] w fun e w' => e = .returned (.tuple #[.int .i64 r1, .int .i64 r2]) ∧ Below w.heap.size w w' := by
  unfold calendar_closed_nth.f at h
  have hlen : l0.length < 4611686018427387904 := by
    by_cases hl : l0.length < 4611686018427387904
    · exact hl
    · rw [if_neg hl] at h; cases h
  rw [if_pos hlen] at h
  obtain ⟨W0, hW0⟩ : ∃ W0, W0 = (w.alloc (.cells #[.slice A0 l0.length c0] 57)).alloc (.cells #[.int .i64 a1] 3) := ⟨_, rfl⟩
  have hsize : W0.heap.size = w.heap.size + 1 + 1 := by rw [hW0]; simp
  have hB0 : Below w.heap.size w W0 := by rw [hW0]; exact ((Below.refl _ w).alloc (Nat.le_refl _) _).alloc (by simp) _
  have ca : W0.cell? ⟨w.heap.size, 0, none⟩ = some (.slice A0 l0.length c0) := by rw [hW0]; simp [go_sem, World.cell?_alloc_past]
  have cx : W0.cell? ⟨w.heap.size + 1, 0, none⟩ = some (.int .i64 a1) := by rw [hW0]; simp [go_sem]
  have hr := Kd.C_below hr0 hB0
  have eg : ∀ args w, (callFunc 42 args).run Try.prog w = .ok (.enter 42 args) w := enters_of Try.func42 (by kernel_rfl) rfl
  have hS := search_any 42 #[.pointer (some ⟨w.heap.size, 0, none⟩), .pointer (some ⟨w.heap.size + 1, 0, none⟩)] 1048577 (nthP l0 a1) W0 eg (by decide)
    (fun W i hb hi => nth_closure w.heap.size (w.heap.size + 1) A0 c0 l0 a1 i W hi hlen hc0 (pw_cell_below hb ca) (pw_cell_below hb cx) (Kd.C_below hr hb))
  clear hr hr0 ca cx
  generalize bs (nthP l0 a1) 1048577 = r at hS h
  have HS := Aside0.mk hS
  clear hS
  by_cases hgt : (r : Int) > 1048576
  · rw [if_pos hgt] at h
    obtain ⟨rfl, rfl⟩ := Prod.mk.inj (Option.some.inj h)
    clear h
    have hd : decide ((1048576 : Int) < (r : Int)) = true := decide_eq_true hgt
    go_enter Try.func34, Try.ntmps34
    go_wp2_with (go_at_call 41; rw [← hW0]; refine HS.out.mono ?_; rintro e w' ⟨rfl, hb⟩)
    go_ret2
    exact ⟨rfl, below_then hB0 (by omega) hb⟩
  · rw [if_neg hgt] at h
    obtain ⟨rfl, rfl⟩ := Prod.mk.inj (Option.some.inj h)
    clear h
    have hd : decide ((1048576 : Int) < (r : Int)) = false := decide_eq_false hgt
    go_enter Try.func34, Try.ntmps34
    go_wp2_with (go_at_call 41; rw [← hW0]; refine HS.out.mono ?_; rintro e w' ⟨rfl, hb⟩)
    go_ret2
    exact ⟨rfl, below_then hB0 (by omega) hb⟩

end Go.Proofs.Ytmlhckcnpfokaaa.Hw
