/- What the Go functions named below come to, each told as a Lean function ('.f'), with the proof ('.calls'): no condition beyond those that each theorem states. Written by a program of this session's over the translation. -/
import Derived.Test.YtjdkfdcaicdenaaF0
import Derived.Test.YtjdkfdcaicdenaaF2
import Derived.Test.YtjdkfdcaicdenaaE1
namespace Go.Proofs.Ytjdkfdcaicdenaa.F
open Go.RowKit Go.Proofs.YtjdkfdcaicdenaaW.PrintWords Go.Proofs.YtjdkfdcaicdenaaW.PrintLast Go.Proofs.YtjdkfdcaicdenaaW.PrintMore
attribute [local go_sem] max2_int min2_int max_two min_two max_three min_three max_four min_four   -- for this text's walks alone
set_option linter.unusedVariables false
set_option linter.unusedSimpArgs false

/-! ### insolvencylaw34_NoticeCheck: function 3 -/
def insolvencylaw34_NoticeCheck.j0 : Nat → List (S46) → List (S54) → Int → Int → Bool → Int → Int → Int → Int → Int → Int → Option (Bool)
  | 0, _, _, _, _, _, _, _, _, _, _, _ => none
  | k + 1, x1, x2, x4, x5, x23, x128000, x128001, x128002, x129000, x129001, x129002 => if x23 = true then ((insolvencylaw34_awake.f k).bind fun t129 => (some t129)) else ((insolvencylaw0_Post.f x129000 x129001 x129002).bind fun bt130 => (if 0 ≤ (wrap64 (Int.tmod x4 36)) then (if (wrap64 (Int.tmod x4 36) : Int).toNat ≤ 17592186044416 then ((some (List.replicate (wrap64 (Int.tmod x4 36) : Int).toNat z46 : List (S46))).bind fun y134 => (if 0 ≤ (wrap64 (Int.tmod x5 300)) then (if (wrap64 (Int.tmod x5 300) : Int).toNat ≤ 11728124029610 then ((some (List.replicate (wrap64 (Int.tmod x5 300) : Int).toNat z54 : List (S54))).bind fun y137 => ((insolvencylaw34_awake.f k).bind fun t140 => (if t140 = true then ((notice_Check.f k x128000 x128001 x128002 x1 x2).bind fun t141 => ((insolvencyref33_CheckPost.f k x128000 x128001 x128002 x1 x2).bind fun t142 => (if t141 = t142 then ((notice_Check.f k bt130.1 bt130.2.1 bt130.2.2 x1 x2).bind fun t143 => ((insolvencyref33_CheckPost.f k bt130.1 bt130.2.1 bt130.2.2 x1 x2).bind fun t144 => (if t143 = t144 then ((notice_Check.f k bt130.1 bt130.2.1 bt130.2.2 y134 y137).bind fun t145 => ((insolvencyref33_CheckPost.f k bt130.1 bt130.2.1 bt130.2.2 y134 y137).bind fun t146 => (some (t145 == t146)))) else (none)))) else (none)))) else (none)))) else (none)) else (none))) else (none)) else (none)))
def insolvencylaw34_NoticeCheck.f (k : Nat) (a0_0 : Int) (a0_1 : Int) (a0_2 : Int) (l1 : List (S46)) (l2 : List (S54)) (a3_0 : Int) (a3_1 : Int) (a3_2 : Int) (a4 : Int) (a5 : Int) : Option (Bool) := if (l1.length : Int) > 12 then (insolvencylaw34_NoticeCheck.j0 k l1 l2 a4 a5 true a0_0 a0_1 a0_2 a3_0 a3_1 a3_2) else (insolvencylaw34_NoticeCheck.j0 k l1 l2 a4 a5 (decide ((l2.length : Int) > 12)) a0_0 a0_1 a0_2 a3_0 a3_1 a3_2)
theorem insolvencylaw34_NoticeCheck.mono_l : ∀ k, (∀ y0 y1 y2 y3 y4 y5 y6 y7 y8 y9 y10, LeO (insolvencylaw34_NoticeCheck.j0 k y0 y1 y2 y3 y4 y5 y6 y7 y8 y9 y10) (insolvencylaw34_NoticeCheck.j0 (k + 1) y0 y1 y2 y3 y4 y5 y6 y7 y8 y9 y10))
  | 0 => fun _ _ _ _ _ _ _ _ _ _ _ r h => by simp [insolvencylaw34_NoticeCheck.j0] at h
  | k + 1 => by
    have ih0 := insolvencylaw34_NoticeCheck.mono_l k
    · intro y0 y1 y2 y3 y4 y5 y6 y7 y8 y9 y10
      unfold insolvencylaw34_NoticeCheck.j0
      repeat' first
      | (with_reducible exact ih0 _ _ _ _ _ _ _ _ _ _ _)
      | (with_reducible exact insolvencylaw34_awake.mono _)
      | (with_reducible exact insolvencyref33_CheckPost.mono _ _ _ _ _ _)
      | (with_reducible exact notice_Check.mono _ _ _ _ _ _)
      | (with_reducible exact LeO.refl _)
      | (with_reducible exact LeO.none _)
      | (with_reducible refine LeO.ite ?_ ?_)
      | (with_reducible refine LeO.bind ?_ (fun _ => ?_))
      | exact ih0 _ _ _ _ _ _ _ _ _ _ _
      | exact insolvencylaw34_awake.mono _
      | exact insolvencyref33_CheckPost.mono _ _ _ _ _ _
      | exact notice_Check.mono _ _ _ _ _ _
      | exact LeO.none _
      | refine LeO.ite ?_ ?_
      | refine LeO.bind ?_ (fun _ => ?_)
theorem insolvencylaw34_NoticeCheck.mono : ∀ a0 a1 a2 a3 a4 a5 a6 a7 a8 a9 k, LeO (insolvencylaw34_NoticeCheck.f k a0 a1 a2 a3 a4 a5 a6 a7 a8 a9) (insolvencylaw34_NoticeCheck.f (k + 1) a0 a1 a2 a3 a4 a5 a6 a7 a8 a9) := by
  intro a0 a1 a2 a3 a4 a5 a6 a7 a8 a9 k
  have ih0 := insolvencylaw34_NoticeCheck.mono_l k
  unfold insolvencylaw34_NoticeCheck.f
  repeat' first
      | (with_reducible exact ih0 _ _ _ _ _ _ _ _ _ _ _)
      | (with_reducible exact insolvencylaw34_awake.mono _)
      | (with_reducible exact insolvencyref33_CheckPost.mono _ _ _ _ _ _)
      | (with_reducible exact notice_Check.mono _ _ _ _ _ _)
      | (with_reducible exact LeO.refl _)
      | (with_reducible exact LeO.none _)
      | (with_reducible refine LeO.ite ?_ ?_)
      | (with_reducible refine LeO.bind ?_ (fun _ => ?_))
      | exact ih0 _ _ _ _ _ _ _ _ _ _ _
      | exact insolvencylaw34_awake.mono _
      | exact insolvencyref33_CheckPost.mono _ _ _ _ _ _
      | exact notice_Check.mono _ _ _ _ _ _
      | exact LeO.none _
      | refine LeO.ite ?_ ?_
      | refine LeO.bind ?_ (fun _ => ?_)
def insolvencylaw34_NoticeCheck.T6 : Bool × List (List Nat × List Nat) := (true, [([], []), ([0, 0], [0]), ([1], [1]), ([1], [1]), ([1], [1]), ([2, 3, 4, 1, 1], [1, 2, 3, 4]), ([1], [1]), ([1], [1]), ([1], [1]), ([6, 7, 8, 5, 1], [1, 6, 7, 8]), ([5, 9, 1], [1, 5, 9]), ([1, 10], [1, 10]), ([11, 9], [11]), ([12], [12]), ([12], [12]), ([12], [12]), ([13, 14, 15, 12, 12], [12, 13, 14, 15]), ([12], [12]), ([12], [12]), ([12], [12]), ([17, 18, 19, 16, 12], [12, 17, 18, 19]), ([16, 20, 12], [12, 16, 20]), ([12, 21], [12, 21]), ([22, 20], [22]), ([23], [23]), ([23], [23]), ([23], [23]), ([24, 25, 26, 23, 23], [23, 24, 25, 26]), ([23], [23]), ([23], [23]), ([23], [23]), ([28, 29, 30, 27, 23], [23, 28, 29, 30]), ([27, 31, 23], [23, 27, 31]), ([23, 32], [23, 32]), ([33, 31, 0, 1, 2, 3, 4, 5, 6, 7, 8, 9, 10, 11, 12, 13, 14, 15, 16, 17, 18, 19, 20, 21, 22, 23, 24, 25, 26, 27, 28, 29, 30, 31, 32, 33], [33])])
def insolvencylaw34_NoticeCheck.B6 : List Nat := [0, 1, 3, 3, 3, 31, 3, 3, 3, 511, 1023, 2047, 4095, 8191, 8191, 8191, 65535, 8191, 8191, 8191, 1048575, 2097151, 4194303, 8388607, 16777215, 16777215, 16777215, 134217727, 16777215, 16777215, 16777215, 2147483647, 4294967295, 8589934591, 17179869183]
theorem insolvencylaw34_NoticeCheck.tab6 : rtab .any (opsOf Try.f3 6) = insolvencylaw34_NoticeCheck.T6 := by kernel_rfl
theorem insolvencylaw34_NoticeCheck.bits6 : waitsOk insolvencylaw34_NoticeCheck.T6.2 insolvencylaw34_NoticeCheck.B6 = true := by kernel_rfl
set_option maxHeartbeats 8000000 in
set_option maxRecDepth 100000 in
theorem insolvencylaw34_NoticeCheck.calls (k : Nat) (a0_0 : Int) (a0_1 : Int) (a0_2 : Int) (A1 : Option Addr) (c1 : Nat) (l1 : List (S46)) (A2 : Option Addr) (c2 : Nat) (l2 : List (S54)) (a3_0 : Int) (a3_1 : Int) (a3_2 : Int) (a4 : Int) (a5 : Int) (r : Bool) (w : World) (hr1 : Kd.C k46 w A1 l1.length l1) (hc1 : l1.length ≤ c1) (hr2 : Kd.C k54 w A2 l2.length l2) (hc2 : l2.length ≤ c2) (h : insolvencylaw34_NoticeCheck.f k a0_0 a0_1 a0_2 l1 l2 a3_0 a3_1 a3_2 a4 a5 = some r) :
    Calls Try.prog 3 #[.agg #[.int .i64 a0_0, .int .i64 a0_1, .int .i64 a0_2], .slice A1 l1.length c1, .slice A2 l2.length c2, .agg #[.int .u8 a3_0, .int .u8 a3_1, .int .u8 a3_2], .int .u16 a4, .int .u16 a5] w fun e w' => e = .returned (.bool r) ∧ Below w.heap.size w w' := by
  have hu23 := Try.underlying23
  have hu26 := Try.underlying26
  have HR1 := Aside0.mk hr1
  have HC1 := Aside0.mk hc1
  clear hr1 hc1
  have HR2 := Aside0.mk hr2
  have HC2 := Aside0.mk hc2
  clear hr2 hc2
  have HB := Aside0.mk (Below.refl w.heap.size w)
  have H : (if (l1.length : Int) > 12 then (insolvencylaw34_NoticeCheck.j0 k l1 l2 a4 a5 true a0_0 a0_1 a0_2 a3_0 a3_1 a3_2) else (insolvencylaw34_NoticeCheck.j0 k l1 l2 a4 a5 (decide ((l2.length : Int) > 12)) a0_0 a0_1 a0_2 a3_0 a3_1 a3_2)) = some r := h
  clear h
  have HC7 := Aside0.mk H
  clear H
  go_enter Try.func3, Try.ntmps3
  go_upto_region 1 with (first | ((with_reducible refine gate_dst (N := 6) rfl ?_); (try (refine gate_guard (by rfl) ?_; dsimp only)); refine box_event ?hg (N := 6) ?hd (cs := #[.int .i64 a0_0, .int .i64 a0_1, .int .i64 a0_2]) (t := 23) ?hr ?_; (case hd => rfl); (case hg => rfl); (case hr => first | (go_simp; done) | (go_simp; rfl)); intro gb127 hg w8 hbox hb; have n0_ := Aside0.mk (below_step (by repeat (first | (with_reducible first | exact HB.out | apply below_alloc | apply pw_below_drewN | apply below_drew1) | exact HB.out)) hb); have n1_ := Aside0.mk (hbox); have n2_ := Aside0.mk ((by rw [hg]; exact (below_size (by repeat (first | (with_reducible first | exact HB.out | apply below_alloc | apply pw_below_drewN | apply below_drew1) | exact HB.out))) : w.heap.size ≤ gb127)); have n3_ := Aside0.mk ((by rw [hg]; exact (below_size (by repeat (first | (with_reducible first | exact HB.out | apply below_alloc | apply pw_below_drewN | apply below_drew1) | exact HB.out))) : w.heap.size ≤ gb127)); clear HB; have HB := n0_; have BK127 := n1_; have GW127 := n2_; have GE127 := n3_; clear n0_ n1_ n2_ n3_; clear hb hbox hg) | ((with_reducible refine gate_dst (N := 9) rfl ?_); (try (refine gate_guard (by rfl) ?_; dsimp only)); refine box_event ?hg (N := 9) ?hd (cs := #[.int .u8 a3_0, .int .u8 a3_1, .int .u8 a3_2]) (t := 26) ?hr ?_; (case hd => rfl); (case hg => rfl); (case hr => first | (go_simp; done) | (go_simp; rfl)); intro gb128 hg w9 hbox hb; have n0_ := Aside0.mk (blk_below (g := gb127) (o := .cells #[.int .i64 a0_0, .int .i64 a0_1, .int .i64 a0_2] 23 (0, 0)) (by (with_reducible repeat (first | refine blk_drewN ?_ _ | refine blk_drew ?_ | refine blk_alloc ?_ _)); exact BK127.out) hb); have n1_ := Aside0.mk (below_step (by repeat (first | (with_reducible first | exact HB.out | apply below_alloc | apply pw_below_drewN | apply below_drew1 | refine below_set ?_ GE127.out) | exact HB.out)) hb); have n2_ := Aside0.mk (hbox); have n3_ := Aside0.mk ((by rw [hg]; exact (below_size (by repeat (first | (with_reducible first | exact HB.out | apply below_alloc | apply pw_below_drewN | apply below_drew1 | refine below_set ?_ GE127.out) | exact HB.out))) : w.heap.size ≤ gb128)); have n4_ := Aside0.mk ((by rw [hg]; exact (below_size (by repeat (first | (with_reducible first | exact HB.out | apply below_alloc | apply pw_below_drewN | apply below_drew1 | refine below_set ?_ GE127.out) | exact HB.out))) : w.heap.size ≤ gb128)); have n5_ := Aside0.mk ((by rw [hg]; exact Nat.ne_of_lt (blk_lt (g := gb127) (o := .cells #[.int .i64 a0_0, .int .i64 a0_1, .int .i64 a0_2] 23 (0, 0)) (by (with_reducible repeat (first | refine blk_drewN ?_ _ | refine blk_drew ?_ | refine blk_alloc ?_ _)); exact BK127.out)) : gb127 ≠ gb128)); have n6_ := Aside0.mk ((by rw [hg]; exact Nat.ne_of_gt (blk_lt (g := gb127) (o := .cells #[.int .i64 a0_0, .int .i64 a0_1, .int .i64 a0_2] 23 (0, 0)) (by (with_reducible repeat (first | refine blk_drewN ?_ _ | refine blk_drew ?_ | refine blk_alloc ?_ _)); exact BK127.out)) : gb128 ≠ gb127)); clear BK127; clear HB; have BK127 := n0_; have HB := n1_; have BK128 := n2_; have GW128 := n3_; have GE128 := n4_; have NB127_128 := n5_; have NB128_127 := n6_; clear n0_ n1_ n2_ n3_ n4_ n5_ n6_; clear hb hbox hg))
  (try simp only [Act.put, List.setIfInBounds_toArray, List.set_cons_zero, List.set_cons_succ])
  go_cut [23] (fun v23 wc => ∃ (kq : Nat) (x23_6 : Bool), v23 = .bool x23_6 ∧ Aside0 (insolvencylaw34_NoticeCheck.j0 kq l1 l2 a4 a5 x23_6 a0_0 a0_1 a0_2 a3_0 a3_1 a3_2 = some r) ∧ Aside0 (kq ≤ k) ∧ Aside0 (wc.heap[gb127]? = some (.cells #[.int .i64 a0_0, .int .i64 a0_1, .int .i64 a0_2] 23 (0, 0))) ∧ Aside0 (wc.heap[gb128]? = some (.cells #[.int .u8 a3_0, .int .u8 a3_1, .int .u8 a3_2] 26 (0, 0))) ∧ Aside0 (Below w.heap.size w wc))
  case first =>
    have H := HC7.out
    clear HC7
    by_cases c10 : (l1.length : Int) > 12
    · rw [if_pos c10] at H
      have c10b0 : decide (12 < (l1.length : Int)) = true := decide_eq_true c10
      have c10b1 : decide (12 < l1.length) = true := decide_eq_true (by omega)
      clear c10
      (first | rw [c10b0] | (simp only [i64_w, i32_w]; rw [c10b0]) | skip)
      have H' := Aside0.mk H
      clear H
      go_wp2
      go_meet
      case rel => exact ⟨_, (true), (by first | rfl | (simp; done) | (simp [*]; done)), H', ⟨by first | omega | exact Nat.le_refl _⟩, ⟨by (with_reducible repeat (first | refine blk_drewN ?_ _ | refine blk_drew ?_ | refine blk_alloc ?_ _)); exact BK127.out⟩, ⟨by (with_reducible repeat (first | refine blk_drewN ?_ _ | refine blk_drew ?_ | refine blk_alloc ?_ _)); exact BK128.out⟩, ⟨by repeat (first | (with_reducible first | exact HB.out | apply below_alloc | apply pw_below_drewN | apply below_drew1 | refine below_set ?_ GE127.out | refine below_set ?_ GE128.out) | exact HB.out)⟩⟩
    · rw [if_neg c10] at H
      have c10b0 : decide (12 < (l1.length : Int)) = false := decide_eq_false c10
      have c10b1 : decide (12 < l1.length) = false := decide_eq_false (by omega)
      clear c10
      (first | rw [c10b0] | (simp only [i64_w, i32_w]; rw [c10b0]) | skip)
      have H' := Aside0.mk H
      clear H
      go_wp2
      go_meet
      case rel => exact ⟨_, (decide ((l2.length : Int) > 12)), (by first | rfl | (simp; done) | (simp [*]; done)), H', ⟨by first | omega | exact Nat.le_refl _⟩, ⟨by (with_reducible repeat (first | refine blk_drewN ?_ _ | refine blk_drew ?_ | refine blk_alloc ?_ _)); exact BK127.out⟩, ⟨by (with_reducible repeat (first | refine blk_drewN ?_ _ | refine blk_drew ?_ | refine blk_alloc ?_ _)); exact BK128.out⟩, ⟨by repeat (first | (with_reducible first | exact HB.out | apply below_alloc | apply pw_below_drewN | apply below_drew1 | refine below_set ?_ GE127.out | refine below_set ?_ GE128.out) | exact HB.out)⟩⟩
  case rest =>
    clear HC7
    try clear c1
    try clear c2
    try clear p2
    try clear c3
    try clear c10
    try clear c10b0
    try clear c10b1
    obtain ⟨kq, x23_6, rfl, HA, HJ6, BK127, BK128, HB⟩ := hcut
    cases kq with
    | zero => exact absurd HA.out (by simp [insolvencylaw34_NoticeCheck.j0])
    | succ kj6 =>
      have H := HA.out
      clear HA
      simp only [insolvencylaw34_NoticeCheck.j0] at H
      by_cases c11 : x23_6 = true
      · subst c11
        have H1 : ((insolvencylaw34_awake.f kj6).bind fun t129 => (some t129)) = some r := by rw [if_pos rfl] at H; exact H
        clear H
        have H := H1
        clear H1
        replace H := Option.bind_eq_some_iff.mp H
        obtain ⟨t129, A120, H⟩ := H
        replace H : (some t129) = some r := H
        have A12 := Aside0.mk A120
        clear A120
        obtain rfl := Option.some.inj H
        go_wp2_with (first | ((with_reducible refine gate_callee (f := 9) rfl ?_); refine goesL_ (some 24) rfl rfl Try.func9 (by kernel_rfl) rfl #[] rfl (by (try simp only [List.map_toArray, List.map_cons, List.map_nil]); first | done | rfl | (simp only [List.length_drop, List.length_take]; rfl)) ?_; (with_reducible refine (insolvencylaw34_awake.calls kj6  t129 _ A12.out).mono ?_); rintro e w13 ⟨rfl, hb⟩; refine ⟨_, rfl, ?_⟩; have n0_ := Aside0.mk (blk_below (g := gb127) (o := .cells #[.int .i64 a0_0, .int .i64 a0_1, .int .i64 a0_2] 23 (0, 0)) (by (with_reducible repeat (first | refine blk_drewN ?_ _ | refine blk_drew ?_ | refine blk_alloc ?_ _)); exact BK127.out) hb); have n1_ := Aside0.mk (blk_below (g := gb128) (o := .cells #[.int .u8 a3_0, .int .u8 a3_1, .int .u8 a3_2] 26 (0, 0)) (by (with_reducible repeat (first | refine blk_drewN ?_ _ | refine blk_drew ?_ | refine blk_alloc ?_ _)); exact BK128.out) hb); have n2_ := Aside0.mk (below_step (by repeat (first | (with_reducible first | exact HB.out | apply below_alloc | apply pw_below_drewN | apply below_drew1 | refine below_set ?_ GE127.out | refine below_set ?_ GE128.out) | exact HB.out)) hb); clear BK127; clear BK128; clear HB; have BK127 := n0_; have BK128 := n1_; have HB := n2_; clear n0_ n1_ n2_; (try clear hb); (try clear hb2); (try clear hk); (try clear hi)))
        go_ret
        exact ⟨by first | rfl | (simp [errW_none, errW_some] <;> rfl) | (simp [*, errW_none, errW_some] <;> rfl), by repeat (first | (with_reducible first | exact HB.out | apply below_alloc | apply pw_below_drewN | apply below_drew1 | refine below_set ?_ GE127.out | refine below_set ?_ GE128.out) | exact HB.out)⟩
      · replace c11 := Bool.eq_false_iff.mpr c11
        subst c11
        have H1 : ((insolvencylaw0_Post.f a3_0 a3_1 a3_2).bind fun bt130 => (if 0 ≤ (wrap64 (Int.tmod a4 36)) then (if (wrap64 (Int.tmod a4 36) : Int).toNat ≤ 17592186044416 then ((some (List.replicate (wrap64 (Int.tmod a4 36) : Int).toNat z46 : List (S46))).bind fun y134 => (if 0 ≤ (wrap64 (Int.tmod a5 300)) then (if (wrap64 (Int.tmod a5 300) : Int).toNat ≤ 11728124029610 then ((some (List.replicate (wrap64 (Int.tmod a5 300) : Int).toNat z54 : List (S54))).bind fun y137 => ((insolvencylaw34_awake.f kj6).bind fun t140 => (if t140 = true then ((notice_Check.f kj6 a0_0 a0_1 a0_2 l1 l2).bind fun t141 => ((insolvencyref33_CheckPost.f kj6 a0_0 a0_1 a0_2 l1 l2).bind fun t142 => (if t141 = t142 then ((notice_Check.f kj6 bt130.1 bt130.2.1 bt130.2.2 l1 l2).bind fun t143 => ((insolvencyref33_CheckPost.f kj6 bt130.1 bt130.2.1 bt130.2.2 l1 l2).bind fun t144 => (if t143 = t144 then ((notice_Check.f kj6 bt130.1 bt130.2.1 bt130.2.2 y134 y137).bind fun t145 => ((insolvencyref33_CheckPost.f kj6 bt130.1 bt130.2.1 bt130.2.2 y134 y137).bind fun t146 => (some (t145 == t146)))) else (none)))) else (none)))) else (none)))) else (none)) else (none))) else (none)) else (none))) = some r := by rw [if_neg (show ¬ (false = true) by decide)] at H; exact H
        clear H
        have H := H1
        clear H1
        replace H := Option.bind_eq_some_iff.mp H
        obtain ⟨⟨t130, t131, t132⟩, A140, H⟩ := H
        replace H : (if 0 ≤ (wrap64 (Int.tmod a4 36)) then (if (wrap64 (Int.tmod a4 36) : Int).toNat ≤ 17592186044416 then ((some (List.replicate (wrap64 (Int.tmod a4 36) : Int).toNat z46 : List (S46))).bind fun y134 => (if 0 ≤ (wrap64 (Int.tmod a5 300)) then (if (wrap64 (Int.tmod a5 300) : Int).toNat ≤ 11728124029610 then ((some (List.replicate (wrap64 (Int.tmod a5 300) : Int).toNat z54 : List (S54))).bind fun y137 => ((insolvencylaw34_awake.f kj6).bind fun t140 => (if t140 = true then ((notice_Check.f kj6 a0_0 a0_1 a0_2 l1 l2).bind fun t141 => ((insolvencyref33_CheckPost.f kj6 a0_0 a0_1 a0_2 l1 l2).bind fun t142 => (if t141 = t142 then ((notice_Check.f kj6 t130 t131 t132 l1 l2).bind fun t143 => ((insolvencyref33_CheckPost.f kj6 t130 t131 t132 l1 l2).bind fun t144 => (if t143 = t144 then ((notice_Check.f kj6 t130 t131 t132 y134 y137).bind fun t145 => ((insolvencyref33_CheckPost.f kj6 t130 t131 t132 y134 y137).bind fun t146 => (some (t145 == t146)))) else (none)))) else (none)))) else (none)))) else (none)) else (none))) else (none)) else (none)) = some r := H
        have A14 := Aside0.mk A140
        clear A140
        obtain ⟨ji15, hji15⟩ : ∃ j_ : Int, (wrap64 (Int.tmod a4 36)) = j_ := ⟨_, rfl⟩
        replace H : (if 0 ≤ (ji15) then (if (ji15 : Int).toNat ≤ 17592186044416 then ((some (List.replicate (ji15 : Int).toNat z46 : List (S46))).bind fun y134 => (if 0 ≤ (wrap64 (Int.tmod a5 300)) then (if (wrap64 (Int.tmod a5 300) : Int).toNat ≤ 11728124029610 then ((some (List.replicate (wrap64 (Int.tmod a5 300) : Int).toNat z54 : List (S54))).bind fun y137 => ((insolvencylaw34_awake.f kj6).bind fun t140 => (if t140 = true then ((notice_Check.f kj6 a0_0 a0_1 a0_2 l1 l2).bind fun t141 => ((insolvencyref33_CheckPost.f kj6 a0_0 a0_1 a0_2 l1 l2).bind fun t142 => (if t141 = t142 then ((notice_Check.f kj6 t130 t131 t132 l1 l2).bind fun t143 => ((insolvencyref33_CheckPost.f kj6 t130 t131 t132 l1 l2).bind fun t144 => (if t143 = t144 then ((notice_Check.f kj6 t130 t131 t132 y134 y137).bind fun t145 => ((insolvencyref33_CheckPost.f kj6 t130 t131 t132 y134 y137).bind fun t146 => (some (t145 == t146)))) else (none)))) else (none)))) else (none)))) else (none)) else (none))) else (none)) else (none)) = some r := by first | (rw [hji15] at H; exact H) | (simp only [hji15] at H ⊢; exact H)
        (try rw [hji15] at A14)
        have hji15w : (IntKind.i64.wrap (Int.tmod a4 36)) = ji15 := (i64_w _).trans hji15
        by_cases c16 : 0 ≤ (ji15)
        · rw [if_pos c16] at H
          have c16b0 := eq_true c16
          have c16b1 : decide (0 ≤ (ji15)) = true := decide_eq_true c16
          clear c16
          by_cases c17 : (ji15 : Int).toNat ≤ 17592186044416
          · rw [if_pos c17] at H
            have c17b0 := eq_true c17
            have c17b1 : decide ((ji15 : Int).toNat ≤ 17592186044416) = true := decide_eq_true c17
            clear c17
            obtain ⟨y134, hy134⟩ : ∃ y_ : List (S46), y_ = (List.replicate (ji15 : Int).toNat z46) := ⟨_, rfl⟩
            replace H : (if 0 ≤ (wrap64 (Int.tmod a5 300)) then (if (wrap64 (Int.tmod a5 300) : Int).toNat ≤ 11728124029610 then ((some (List.replicate (wrap64 (Int.tmod a5 300) : Int).toNat z54 : List (S54))).bind fun y137 => ((insolvencylaw34_awake.f kj6).bind fun t140 => (if t140 = true then ((notice_Check.f kj6 a0_0 a0_1 a0_2 l1 l2).bind fun t141 => ((insolvencyref33_CheckPost.f kj6 a0_0 a0_1 a0_2 l1 l2).bind fun t142 => (if t141 = t142 then ((notice_Check.f kj6 t130 t131 t132 l1 l2).bind fun t143 => ((insolvencyref33_CheckPost.f kj6 t130 t131 t132 l1 l2).bind fun t144 => (if t143 = t144 then ((notice_Check.f kj6 t130 t131 t132 y134 y137).bind fun t145 => ((insolvencyref33_CheckPost.f kj6 t130 t131 t132 y134 y137).bind fun t146 => (some (t145 == t146)))) else (none)))) else (none)))) else (none)))) else (none)) else (none)) = some r := by first | (rw [hy134]; with_reducible exact H) | (have H2_ := (Option.bind_some _ _).symm.trans H; rw [hy134]; with_reducible exact H2_) | (have H2_ := (Option.bind_some _ _).symm.trans H; with_reducible exact H2_) | with_reducible exact H | (rw [hy134]; exact H) | exact H
            have Ny134 := Aside0.mk hy134
            clear hy134
            obtain ⟨ji18, hji18⟩ : ∃ j_ : Int, (wrap64 (Int.tmod a5 300)) = j_ := ⟨_, rfl⟩
            replace H : (if 0 ≤ (ji18) then (if (ji18 : Int).toNat ≤ 11728124029610 then ((some (List.replicate (ji18 : Int).toNat z54 : List (S54))).bind fun y137 => ((insolvencylaw34_awake.f kj6).bind fun t140 => (if t140 = true then ((notice_Check.f kj6 a0_0 a0_1 a0_2 l1 l2).bind fun t141 => ((insolvencyref33_CheckPost.f kj6 a0_0 a0_1 a0_2 l1 l2).bind fun t142 => (if t141 = t142 then ((notice_Check.f kj6 t130 t131 t132 l1 l2).bind fun t143 => ((insolvencyref33_CheckPost.f kj6 t130 t131 t132 l1 l2).bind fun t144 => (if t143 = t144 then ((notice_Check.f kj6 t130 t131 t132 y134 y137).bind fun t145 => ((insolvencyref33_CheckPost.f kj6 t130 t131 t132 y134 y137).bind fun t146 => (some (t145 == t146)))) else (none)))) else (none)))) else (none)))) else (none)) else (none)) = some r := by first | (rw [hji18] at H; exact H) | (simp only [hji18] at H ⊢; exact H)
            (try rw [hji18] at A14)
            have hji18w : (IntKind.i64.wrap (Int.tmod a5 300)) = ji18 := (i64_w _).trans hji18
            by_cases c19 : 0 ≤ (ji18)
            · rw [if_pos c19] at H
              have c19b0 := eq_true c19
              have c19b1 : decide (0 ≤ (ji18)) = true := decide_eq_true c19
              clear c19
              by_cases c20 : (ji18 : Int).toNat ≤ 11728124029610
              · rw [if_pos c20] at H
                have c20b0 := eq_true c20
                have c20b1 : decide ((ji18 : Int).toNat ≤ 11728124029610) = true := decide_eq_true c20
                clear c20
                obtain ⟨y137, hy137⟩ : ∃ y_ : List (S54), y_ = (List.replicate (ji18 : Int).toNat z54) := ⟨_, rfl⟩
                replace H : ((insolvencylaw34_awake.f kj6).bind fun t140 => (if t140 = true then ((notice_Check.f kj6 a0_0 a0_1 a0_2 l1 l2).bind fun t141 => ((insolvencyref33_CheckPost.f kj6 a0_0 a0_1 a0_2 l1 l2).bind fun t142 => (if t141 = t142 then ((notice_Check.f kj6 t130 t131 t132 l1 l2).bind fun t143 => ((insolvencyref33_CheckPost.f kj6 t130 t131 t132 l1 l2).bind fun t144 => (if t143 = t144 then ((notice_Check.f kj6 t130 t131 t132 y134 y137).bind fun t145 => ((insolvencyref33_CheckPost.f kj6 t130 t131 t132 y134 y137).bind fun t146 => (some (t145 == t146)))) else (none)))) else (none)))) else (none))) = some r := by first | (rw [hy137]; with_reducible exact H) | (have H2_ := (Option.bind_some _ _).symm.trans H; rw [hy137]; with_reducible exact H2_) | (have H2_ := (Option.bind_some _ _).symm.trans H; with_reducible exact H2_) | with_reducible exact H | (rw [hy137]; exact H) | exact H
                have Ny137 := Aside0.mk hy137
                clear hy137
                replace H := Option.bind_eq_some_iff.mp H
                obtain ⟨t140, A210, H⟩ := H
                replace H : (if t140 = true then ((notice_Check.f kj6 a0_0 a0_1 a0_2 l1 l2).bind fun t141 => ((insolvencyref33_CheckPost.f kj6 a0_0 a0_1 a0_2 l1 l2).bind fun t142 => (if t141 = t142 then ((notice_Check.f kj6 t130 t131 t132 l1 l2).bind fun t143 => ((insolvencyref33_CheckPost.f kj6 t130 t131 t132 l1 l2).bind fun t144 => (if t143 = t144 then ((notice_Check.f kj6 t130 t131 t132 y134 y137).bind fun t145 => ((insolvencyref33_CheckPost.f kj6 t130 t131 t132 y134 y137).bind fun t146 => (some (t145 == t146)))) else (none)))) else (none)))) else (none)) = some r := H
                have A21 := Aside0.mk A210
                clear A210
                by_cases c22 : t140 = true
                · subst c22
                  have H1 : ((notice_Check.f kj6 a0_0 a0_1 a0_2 l1 l2).bind fun t141 => ((insolvencyref33_CheckPost.f kj6 a0_0 a0_1 a0_2 l1 l2).bind fun t142 => (if t141 = t142 then ((notice_Check.f kj6 t130 t131 t132 l1 l2).bind fun t143 => ((insolvencyref33_CheckPost.f kj6 t130 t131 t132 l1 l2).bind fun t144 => (if t143 = t144 then ((notice_Check.f kj6 t130 t131 t132 y134 y137).bind fun t145 => ((insolvencyref33_CheckPost.f kj6 t130 t131 t132 y134 y137).bind fun t146 => (some (t145 == t146)))) else (none)))) else (none)))) = some r := by rw [if_pos rfl] at H; exact H
                  clear H
                  have H := H1
                  clear H1
                  replace H := Option.bind_eq_some_iff.mp H
                  obtain ⟨t141, A230, H⟩ := H
                  replace H : ((insolvencyref33_CheckPost.f kj6 a0_0 a0_1 a0_2 l1 l2).bind fun t142 => (if t141 = t142 then ((notice_Check.f kj6 t130 t131 t132 l1 l2).bind fun t143 => ((insolvencyref33_CheckPost.f kj6 t130 t131 t132 l1 l2).bind fun t144 => (if t143 = t144 then ((notice_Check.f kj6 t130 t131 t132 y134 y137).bind fun t145 => ((insolvencyref33_CheckPost.f kj6 t130 t131 t132 y134 y137).bind fun t146 => (some (t145 == t146)))) else (none)))) else (none))) = some r := H
                  have A23 := Aside0.mk A230
                  clear A230
                  replace H := Option.bind_eq_some_iff.mp H
                  obtain ⟨t142, A240, H⟩ := H
                  replace H : (if t141 = t142 then ((notice_Check.f kj6 t130 t131 t132 l1 l2).bind fun t143 => ((insolvencyref33_CheckPost.f kj6 t130 t131 t132 l1 l2).bind fun t144 => (if t143 = t144 then ((notice_Check.f kj6 t130 t131 t132 y134 y137).bind fun t145 => ((insolvencyref33_CheckPost.f kj6 t130 t131 t132 y134 y137).bind fun t146 => (some (t145 == t146)))) else (none)))) else (none)) = some r := H
                  have A24 := Aside0.mk A240
                  clear A240
                  by_cases c25 : t141 = t142
                  · rw [if_pos c25] at H
                    have c25b0 : (t141 == t142) = true := beq_iff_eq.mpr c25
                    have c25b1 : (t141 != t142) = false := bne_eq_false_iff_eq.mpr c25
                    clear c25
                    replace H := Option.bind_eq_some_iff.mp H
                    obtain ⟨t143, A260, H⟩ := H
                    replace H : ((insolvencyref33_CheckPost.f kj6 t130 t131 t132 l1 l2).bind fun t144 => (if t143 = t144 then ((notice_Check.f kj6 t130 t131 t132 y134 y137).bind fun t145 => ((insolvencyref33_CheckPost.f kj6 t130 t131 t132 y134 y137).bind fun t146 => (some (t145 == t146)))) else (none))) = some r := H
                    have A26 := Aside0.mk A260
                    clear A260
                    replace H := Option.bind_eq_some_iff.mp H
                    obtain ⟨t144, A270, H⟩ := H
                    replace H : (if t143 = t144 then ((notice_Check.f kj6 t130 t131 t132 y134 y137).bind fun t145 => ((insolvencyref33_CheckPost.f kj6 t130 t131 t132 y134 y137).bind fun t146 => (some (t145 == t146)))) else (none)) = some r := H
                    have A27 := Aside0.mk A270
                    clear A270
                    by_cases c28 : t143 = t144
                    · rw [if_pos c28] at H
                      have c28b0 : (t143 == t144) = true := beq_iff_eq.mpr c28
                      have c28b1 : (t143 != t144) = false := bne_eq_false_iff_eq.mpr c28
                      clear c28
                      replace H := Option.bind_eq_some_iff.mp H
                      obtain ⟨t145, A290, H⟩ := H
                      replace H : ((insolvencyref33_CheckPost.f kj6 t130 t131 t132 y134 y137).bind fun t146 => (some (t145 == t146))) = some r := H
                      have A29 := Aside0.mk A290
                      clear A290
                      replace H := Option.bind_eq_some_iff.mp H
                      obtain ⟨t146, A300, H⟩ := H
                      replace H : (some (t145 == t146)) = some r := H
                      have A30 := Aside0.mk A300
                      clear A300
                      obtain rfl := Option.some.inj H
                      have hnb31 := NB128_127.out
                      have hnc31 := NB127_128.out
                      have hcz32_0 : wc.cell? ⟨gb128, 0, none⟩ = some (.int .u8 a3_0) := (blk_cell BK128.out 0).trans rfl
                      have hcz32_1 : wc.cell? ⟨gb128, 1, none⟩ = some (.int .u8 a3_1) := (blk_cell BK128.out 1).trans rfl
                      have hcz32_2 : wc.cell? ⟨gb128, 2, none⟩ = some (.int .u8 a3_2) := (blk_cell BK128.out 2).trans rfl
                      have hfz32_0 := blk_frozen BK128.out 0
                      have hfz32_1 := blk_frozen BK128.out 1
                      have hfz32_2 := blk_frozen BK128.out 2
                      try go_wp2_with (first | ((with_reducible refine gate_callee (f := 10) rfl ?_); refine goesL_ (some 26) rfl rfl Try.func10 (by kernel_rfl) rfl #[.agg #[.int .u8 a3_0, .int .u8 a3_1, .int .u8 a3_2]] rfl (by (try simp only [List.map_toArray, List.map_cons, List.map_nil]); first | done | rfl | (simp only [List.length_drop, List.length_take]; rfl)) ?_; (with_reducible refine (insolvencylaw0_Post.calls a3_0 a3_1 a3_2 t130 t131 t132 _ A14.out).mono ?_); rintro e w33 ⟨rfl, hb⟩; refine ⟨_, rfl, ?_⟩; have n0_ := Aside0.mk (blk_below (g := gb127) (o := .cells #[.int .i64 a0_0, .int .i64 a0_1, .int .i64 a0_2] 23 (0, 0)) (by (with_reducible repeat (first | refine blk_drewN ?_ _ | refine blk_drew ?_ | refine blk_alloc ?_ _)); exact BK127.out) hb); have n1_ := Aside0.mk (blk_below (g := gb128) (o := .cells #[.int .u8 a3_0, .int .u8 a3_1, .int .u8 a3_2] 26 (0, 0)) (by (with_reducible repeat (first | refine blk_drewN ?_ _ | refine blk_drew ?_ | refine blk_alloc ?_ _)); exact BK128.out) hb); have n2_ := Aside0.mk (below_step (by repeat (first | (with_reducible first | exact HB.out | apply below_alloc | apply pw_below_drewN | apply below_drew1 | refine below_set ?_ GE127.out | refine below_set ?_ GE128.out) | exact HB.out)) hb); clear BK127; clear BK128; clear HB; have BK127 := n0_; have BK128 := n1_; have HB := n2_; clear n0_ n1_ n2_; (try clear hb); (try clear hb2); (try clear hk); (try clear hi)) | ((with_reducible refine gate_dst (N := 13) rfl ?_); (try (refine gate_guard (by rfl) ?_; dsimp only)); refine box_event ?hg (N := 13) ?hd (cs := #[.int .i64 0, .int .i64 0, .int .i64 0]) (t := 23) ?hr ?_; (case hd => rfl); (case hg => rfl); (case hr => first | (go_simp; done) | (go_simp; rfl)); intro gb133 hg w34 hbox hb; have n0_ := Aside0.mk (blk_below (g := gb127) (o := .cells #[.int .i64 a0_0, .int .i64 a0_1, .int .i64 a0_2] 23 (0, 0)) (by (with_reducible repeat (first | refine blk_drewN ?_ _ | refine blk_drew ?_ | refine blk_alloc ?_ _)); exact BK127.out) hb); have n1_ := Aside0.mk (blk_below (g := gb128) (o := .cells #[.int .u8 a3_0, .int .u8 a3_1, .int .u8 a3_2] 26 (0, 0)) (by (with_reducible repeat (first | refine blk_drewN ?_ _ | refine blk_drew ?_ | refine blk_alloc ?_ _)); exact BK128.out) hb); have n2_ := Aside0.mk (below_step (by repeat (first | (with_reducible first | exact HB.out | apply below_alloc | apply pw_below_drewN | apply below_drew1 | refine below_set ?_ GE127.out | refine below_set ?_ GE128.out) | exact HB.out)) hb); have n3_ := Aside0.mk (hbox); have n4_ := Aside0.mk ((by rw [hg]; exact (below_size (by repeat (first | (with_reducible first | exact HB.out | apply below_alloc | apply pw_below_drewN | apply below_drew1 | refine below_set ?_ GE127.out | refine below_set ?_ GE128.out) | exact HB.out))) : w.heap.size ≤ gb133)); have n5_ := Aside0.mk ((by rw [hg]; exact (below_size (by repeat (first | (with_reducible first | exact HB.out | apply below_alloc | apply pw_below_drewN | apply below_drew1 | refine below_set ?_ GE127.out | refine below_set ?_ GE128.out) | exact HB.out))) : w.heap.size ≤ gb133)); have n6_ := Aside0.mk ((by rw [hg]; exact Nat.ne_of_lt (blk_lt (g := gb127) (o := .cells #[.int .i64 a0_0, .int .i64 a0_1, .int .i64 a0_2] 23 (0, 0)) (by (with_reducible repeat (first | refine blk_drewN ?_ _ | refine blk_drew ?_ | refine blk_alloc ?_ _)); exact BK127.out)) : gb127 ≠ gb133)); have n7_ := Aside0.mk ((by rw [hg]; exact Nat.ne_of_gt (blk_lt (g := gb127) (o := .cells #[.int .i64 a0_0, .int .i64 a0_1, .int .i64 a0_2] 23 (0, 0)) (by (with_reducible repeat (first | refine blk_drewN ?_ _ | refine blk_drew ?_ | refine blk_alloc ?_ _)); exact BK127.out)) : gb133 ≠ gb127)); have n8_ := Aside0.mk ((by rw [hg]; exact Nat.ne_of_lt (blk_lt (g := gb128) (o := .cells #[.int .u8 a3_0, .int .u8 a3_1, .int .u8 a3_2] 26 (0, 0)) (by (with_reducible repeat (first | refine blk_drewN ?_ _ | refine blk_drew ?_ | refine blk_alloc ?_ _)); exact BK128.out)) : gb128 ≠ gb133)); have n9_ := Aside0.mk ((by rw [hg]; exact Nat.ne_of_gt (blk_lt (g := gb128) (o := .cells #[.int .u8 a3_0, .int .u8 a3_1, .int .u8 a3_2] 26 (0, 0)) (by (with_reducible repeat (first | refine blk_drewN ?_ _ | refine blk_drew ?_ | refine blk_alloc ?_ _)); exact BK128.out)) : gb133 ≠ gb128)); clear BK127; clear BK128; clear HB; have BK127 := n0_; have BK128 := n1_; have HB := n2_; have BK133 := n3_; have GW133 := n4_; have GE133 := n5_; have NB127_133 := n6_; have NB133_127 := n7_; have NB128_133 := n8_; have NB133_128 := n9_; clear n0_ n1_ n2_ n3_ n4_ n5_ n6_ n7_ n8_ n9_; clear hb hbox hg; have hnb35 := NB133_127.out; have hnc35 := NB127_133.out; have hnb36 := NB133_128.out; have hnc36 := NB128_133.out; have hcz37_0 : w34.cell? ⟨gb133, 0, none⟩ = some (.int .i64 0) := (blk_cell BK133.out 0).trans rfl; have hcz37_1 : w34.cell? ⟨gb133, 1, none⟩ = some (.int .i64 0) := (blk_cell BK133.out 1).trans rfl; have hcz37_2 : w34.cell? ⟨gb133, 2, none⟩ = some (.int .i64 0) := (blk_cell BK133.out 2).trans rfl; have hfz37_0 := blk_frozen BK133.out 0; have hfz37_1 := blk_frozen BK133.out 1; have hfz37_2 := blk_frozen BK133.out 2) | ((with_reducible refine gate_dst (N := 30) rfl ?_); (try (refine gate_guard (by rfl) ?_; dsimp only)); refine Kd.R_make k46 _ 46 rfl (N := 30) rfl 24 _ _ rfl ji15 rfl rfl Try.underlying24 (.agg #[(.int .i64 0), (.int .i64 0)]) 16 info46 rfl (by decide) (by omega) z46 (ok := fun _ => True) (okp := fun _ => True) (k46_mkM _ _ _ z46 ) (fun _ hk => hk) trivial (of_decide_eq_true (by first | (with_reducible assumption) | assumption)) (Nat.le_trans (Nat.mul_le_mul_right _ (of_decide_eq_true (by first | (with_reducible assumption) | assumption) : ji15.toNat ≤ 17592186044416)) (by omega)) (Below.refl _ _) (Nat.le_refl _) ?_; intro v135 w38 ho39 hb hg_ hnew_; clear hg_ hnew_; (first | rw [← Ny134.out] at ho39 | (simp only [Int.reduceToNat] at ho39; rw [← Ny134.out] at ho39)); have n0_ := Aside0.mk (Kd.R_lower ho39 (below_size (by repeat (first | (with_reducible first | exact HB.out | apply below_alloc | apply pw_below_drewN | apply below_drew1 | refine below_set ?_ GE127.out | refine below_set ?_ GE128.out | refine below_set ?_ GE133.out) | exact HB.out)))); have n1_ := Aside0.mk (blk_below (g := gb127) (o := .cells #[.int .i64 a0_0, .int .i64 a0_1, .int .i64 a0_2] 23 (0, 0)) (by (with_reducible repeat (first | refine blk_drewN ?_ _ | refine blk_drew ?_ | refine blk_alloc ?_ _)); refine blk_far ?_ NB127_133.out _; (with_reducible repeat (first | refine blk_drewN ?_ _ | refine blk_drew ?_ | refine blk_alloc ?_ _)); refine blk_far ?_ NB127_133.out _; (with_reducible repeat (first | refine blk_drewN ?_ _ | refine blk_drew ?_ | refine blk_alloc ?_ _)); refine blk_far ?_ NB127_133.out _; (with_reducible repeat (first | refine blk_drewN ?_ _ | refine blk_drew ?_ | refine blk_alloc ?_ _)); exact BK127.out) hb); have n2_ := Aside0.mk (blk_below (g := gb128) (o := .cells #[.int .u8 a3_0, .int .u8 a3_1, .int .u8 a3_2] 26 (0, 0)) (by (with_reducible repeat (first | refine blk_drewN ?_ _ | refine blk_drew ?_ | refine blk_alloc ?_ _)); refine blk_far ?_ NB128_133.out _; (with_reducible repeat (first | refine blk_drewN ?_ _ | refine blk_drew ?_ | refine blk_alloc ?_ _)); refine blk_far ?_ NB128_133.out _; (with_reducible repeat (first | refine blk_drewN ?_ _ | refine blk_drew ?_ | refine blk_alloc ?_ _)); refine blk_far ?_ NB128_133.out _; (with_reducible repeat (first | refine blk_drewN ?_ _ | refine blk_drew ?_ | refine blk_alloc ?_ _)); exact BK128.out) hb); have n3_ := Aside0.mk (blk_below (g := gb133) (o := .cells #[.int .i64 t130, .int .i64 t131, .int .i64 t132] 23 (0, 0)) (by (with_reducible repeat (first | refine blk_drewN ?_ _ | refine blk_drew ?_ | refine blk_alloc ?_ _)); refine blk_put (cs := #[.int .i64 t130, .int .i64 t131, .int .i64 0]) ?_ 2 _ rfl; (with_reducible repeat (first | refine blk_drewN ?_ _ | refine blk_drew ?_ | refine blk_alloc ?_ _)); refine blk_put (cs := #[.int .i64 t130, .int .i64 0, .int .i64 0]) ?_ 1 _ rfl; (with_reducible repeat (first | refine blk_drewN ?_ _ | refine blk_drew ?_ | refine blk_alloc ?_ _)); refine blk_put (cs := #[.int .i64 0, .int .i64 0, .int .i64 0]) ?_ 0 _ rfl; (with_reducible repeat (first | refine blk_drewN ?_ _ | refine blk_drew ?_ | refine blk_alloc ?_ _)); exact BK133.out) hb); have n4_ := Aside0.mk (below_step (by repeat (first | (with_reducible first | exact HB.out | apply below_alloc | apply pw_below_drewN | apply below_drew1 | refine below_set ?_ GE127.out | refine below_set ?_ GE128.out | refine below_set ?_ GE133.out) | exact HB.out)) hb); clear BK127; clear BK128; clear BK133; clear HB; have HO136 := n0_; have BK127 := n1_; have BK128 := n2_; have BK133 := n3_; have HB := n4_; clear n0_ n1_ n2_ n3_ n4_; clear hb ho39) | ((with_reducible refine gate_dst (N := 34) rfl ?_); (try (refine gate_guard (by rfl) ?_; dsimp only)); refine Kd.R_make k54 _ 54 rfl (N := 34) rfl 25 _ _ rfl ji18 rfl rfl Try.underlying25 (.agg #[(.int .i64 0), (.int .i64 0), (.bool false)]) 24 info54 rfl (by decide) (by omega) z54 (ok := fun _ => True) (okp := fun _ => True) (k54_mkM _ _ _ z54 ) (fun _ hk => hk) trivial (of_decide_eq_true (by first | (with_reducible assumption) | assumption)) (Nat.le_trans (Nat.mul_le_mul_right _ (of_decide_eq_true (by first | (with_reducible assumption) | assumption) : ji18.toNat ≤ 11728124029610)) (by omega)) (Below.refl _ _) (Nat.le_refl _) ?_; intro v138 w40 ho41 hb hg_ hnew_; clear hg_ hnew_; (first | rw [← Ny137.out] at ho41 | (simp only [Int.reduceToNat] at ho41; rw [← Ny137.out] at ho41)); have n0_ := Aside0.mk (Kd.R_below (by (with_reducible repeat (first | apply Kd.R_alloc | apply Kd.R_drewN | apply Kd.R_drew)); exact HO136.out) hb); have n1_ := Aside0.mk (Kd.R_lower ho41 (below_size (by repeat (first | (with_reducible first | exact HB.out | apply below_alloc | apply pw_below_drewN | apply below_drew1 | refine below_set ?_ GE127.out | refine below_set ?_ GE128.out | refine below_set ?_ GE133.out) | exact HB.out)))); have n2_ := Aside0.mk (blk_below (g := gb127) (o := .cells #[.int .i64 a0_0, .int .i64 a0_1, .int .i64 a0_2] 23 (0, 0)) (by (with_reducible repeat (first | refine blk_drewN ?_ _ | refine blk_drew ?_ | refine blk_alloc ?_ _)); exact BK127.out) hb); have n3_ := Aside0.mk (blk_below (g := gb128) (o := .cells #[.int .u8 a3_0, .int .u8 a3_1, .int .u8 a3_2] 26 (0, 0)) (by (with_reducible repeat (first | refine blk_drewN ?_ _ | refine blk_drew ?_ | refine blk_alloc ?_ _)); exact BK128.out) hb); have n4_ := Aside0.mk (blk_below (g := gb133) (o := .cells #[.int .i64 t130, .int .i64 t131, .int .i64 t132] 23 (0, 0)) (by (with_reducible repeat (first | refine blk_drewN ?_ _ | refine blk_drew ?_ | refine blk_alloc ?_ _)); exact BK133.out) hb); have n5_ := Aside0.mk (below_step (by repeat (first | (with_reducible first | exact HB.out | apply below_alloc | apply pw_below_drewN | apply below_drew1 | refine below_set ?_ GE127.out | refine below_set ?_ GE128.out | refine below_set ?_ GE133.out) | exact HB.out)) hb); clear HO136; clear BK127; clear BK128; clear BK133; clear HB; have HO136 := n0_; have HO139 := n1_; have BK127 := n2_; have BK128 := n3_; have BK133 := n4_; have HB := n5_; clear n0_ n1_ n2_ n3_ n4_ n5_; clear hb ho41))
                      have n0_ := Aside0.mk (Kd.R_drew HO136.out)
                      have n1_ := Aside0.mk (Kd.R_drew HO139.out)
                      have n2_ := Aside0.mk (blk_drew BK127.out)
                      have n3_ := Aside0.mk (blk_drew BK128.out)
                      have n4_ := Aside0.mk (blk_drew BK133.out)
                      have n5_ := Aside0.mk (below_drew1 HB.out)
                      clear HO136
                      clear HO139
                      clear BK127
                      clear BK128
                      clear BK133
                      clear HB
                      have HO136 := n0_
                      have HO139 := n1_
                      have BK127 := n2_
                      have BK128 := n3_
                      have BK133 := n4_
                      have HB := n5_
                      clear n0_ n1_ n2_ n3_ n4_ n5_
                      refine start_ (n := 35) (S := fun w' => w'.cell? ⟨gb127, 0, none⟩ = some (.int .i64 a0_0) ∧ w'.cell? ⟨gb127, 1, none⟩ = some (.int .i64 a0_1) ∧ w'.cell? ⟨gb127, 2, none⟩ = some (.int .i64 a0_2) ∧ w'.cell? ⟨gb133, 0, none⟩ = some (.int .i64 t130) ∧ w'.cell? ⟨gb133, 1, none⟩ = some (.int .i64 t131) ∧ w'.cell? ⟨gb133, 2, none⟩ = some (.int .i64 t132)) (ds := []) #[false, false, false, false, false, false, false, false, false, false, false, false, false, false, false, false, false, false, false, false, false, false, false, false, false, false, false, false, false, false, false, false, false, false, false] (by kernel_rfl) rfl rfl ⟨(blk_cell BK127.out 0).trans rfl, (blk_cell BK127.out 1).trans rfl, (blk_cell BK127.out 2).trans rfl, (blk_cell BK133.out 0).trans rfl, (blk_cell BK133.out 1).trans rfl, (blk_cell BK133.out 2).trans rfl⟩ (fun hHeld => ?_); refine with_tabW insolvencylaw34_NoticeCheck.tab6 insolvencylaw34_NoticeCheck.bits6 (fun HT_ HW_ => ?_)
                      generalize w40.drew = w42 at HO136 HO139 BK127 BK128 BK133 HB hHeld ⊢
                      refine one_ (i := 0) (N := some 35) #[true, false, false, false, false, false, false, false, false, false, false, false, false, false, false, false, false, false, false, false, false, false, false, false, false, false, false, false, false, false, false, false, false, false, false] rfl rfl (one_of HT_.out (by kernel_rfl)) (by decide) (fun K hK => ?_)
                      refine goes_ Try.func9 (by kernel_rfl) rfl #[] (by rfl) rfl rfl (by (try simp only [List.map_toArray, List.map_cons, List.map_nil]); first | done | rfl | (simp only [List.length_drop, List.length_take]; rfl)) ?_
                      with_reducible refine (insolvencylaw34_awake.calls kj6  true _ A21.out).mono ?_
                      rintro e w43 ⟨rfl, hb⟩
                      refine ⟨_, rfl, ?_⟩
                      have n0_ := Aside0.mk (Kd.R_below (by (with_reducible repeat (first | apply Kd.R_alloc | apply Kd.R_drewN | apply Kd.R_drew)); exact HO136.out) hb)
                      have n1_ := Aside0.mk (Kd.R_below (by (with_reducible repeat (first | apply Kd.R_alloc | apply Kd.R_drewN | apply Kd.R_drew)); exact HO139.out) hb)
                      have n2_ := Aside0.mk (blk_below (g := gb127) (o := .cells #[.int .i64 a0_0, .int .i64 a0_1, .int .i64 a0_2] 23 (0, 0)) (by (with_reducible repeat (first | refine blk_drewN ?_ _ | refine blk_drew ?_ | refine blk_alloc ?_ _)); exact BK127.out) hb)
                      have n3_ := Aside0.mk (blk_below (g := gb128) (o := .cells #[.int .u8 a3_0, .int .u8 a3_1, .int .u8 a3_2] 26 (0, 0)) (by (with_reducible repeat (first | refine blk_drewN ?_ _ | refine blk_drew ?_ | refine blk_alloc ?_ _)); exact BK128.out) hb)
                      have n4_ := Aside0.mk (blk_below (g := gb133) (o := .cells #[.int .i64 t130, .int .i64 t131, .int .i64 t132] 23 (0, 0)) (by (with_reducible repeat (first | refine blk_drewN ?_ _ | refine blk_drew ?_ | refine blk_alloc ?_ _)); exact BK133.out) hb)
                      have n5_ := Aside0.mk (below_step (by repeat (first | (with_reducible first | exact HB.out | apply below_alloc | apply pw_below_drewN | apply below_drew1 | refine below_set ?_ GE127.out | refine below_set ?_ GE128.out | refine below_set ?_ GE133.out) | exact HB.out)) hb)
                      clear HO136
                      clear HO139
                      clear BK127
                      clear BK128
                      clear BK133
                      clear HB
                      have HO136 := n0_
                      have HO139 := n1_
                      have BK127 := n2_
                      have BK128 := n3_
                      have BK133 := n4_
                      have HB := n5_
                      clear n0_ n1_ n2_ n3_ n4_ n5_
                      (try clear hb)
                      (try clear hb2)
                      (try clear hk)
                      (try clear hi)
                      refine hK.out _ _ ⟨(blk_cell BK127.out 0).trans rfl, (blk_cell BK127.out 1).trans rfl, (blk_cell BK127.out 2).trans rfl, (blk_cell BK133.out 0).trans rfl, (blk_cell BK133.out 1).trans rfl, (blk_cell BK133.out 2).trans rfl⟩ (fun hHeld => ?_)
                      clear hK K
                      refine norm_ (a' := ?_) ?_ ?_
                      rotate_left
                      · show Act.put _ (some 35) _ = _
                        simp only [Act.put, List.setIfInBounds_toArray, List.set_cons_zero, List.set_cons_succ, i64_w, i32_w]
                        rfl
                      refine pure_ (i := 1) (N := some 36) (v := ?_) (a' := ?_) #[true, true, false, false, false, false, false, false, false, false, false, false, false, false, false, false, false, false, false, false, false, false, false, false, false, false, false, false, false, false, false, false, false, false, false] rfl rfl (any_of HT_.out (by kernel_rfl)) (fun _ _ _ h => h) (Or.inl ⟨by rfl, ?_⟩) ?_ ?_
                      rotate_left
                      · intro w'
                        go_simp
                        with_reducible rfl
                      rotate_left
                      · simp only [Act.put, List.setIfInBounds_toArray, List.set_cons_zero, List.set_cons_succ, i64_w, i32_w]
                        rfl
                      refine pure_ (i := 3) (N := some 38) (v := ?_) (a' := ?_) #[true, true, false, true, false, false, false, false, false, false, false, false, false, false, false, false, false, false, false, false, false, false, false, false, false, false, false, false, false, false, false, false, false, false, false] rfl rfl (any_of HT_.out (by kernel_rfl)) (fun _ _ _ h => h) (Or.inl ⟨by rfl, ?_⟩) ?_ ?_
                      rotate_left
                      · intro w'
                        go_simp
                        with_reducible rfl
                      rotate_left
                      · simp only [Act.put, List.setIfInBounds_toArray, List.set_cons_zero, List.set_cons_succ, i64_w, i32_w]
                        rfl
                      refine pure_ (i := 4) (N := some 39) (v := ?_) (a' := ?_) #[true, true, false, true, true, false, false, false, false, false, false, false, false, false, false, false, false, false, false, false, false, false, false, false, false, false, false, false, false, false, false, false, false, false, false] rfl rfl (any_of HT_.out (by kernel_rfl)) (fun _ _ _ h => h) (Or.inl ⟨by rfl, ?_⟩) ?_ ?_
                      rotate_left
                      · intro w'
                        go_simp
                        with_reducible rfl
                      rotate_left
                      · simp only [Act.put, List.setIfInBounds_toArray, List.set_cons_zero, List.set_cons_succ, i64_w, i32_w]
                        rfl
                      refine pure_ (i := 7) (N := some 42) (v := ?_) (a' := ?_) #[true, true, false, true, true, false, false, true, false, false, false, false, false, false, false, false, false, false, false, false, false, false, false, false, false, false, false, false, false, false, false, false, false, false, false] rfl rfl (any_of HT_.out (by kernel_rfl)) (fun _ _ _ h => h) (Or.inl ⟨by rfl, ?_⟩) ?_ ?_
                      rotate_left
                      · intro w'
                        go_simp
                        with_reducible rfl
                      rotate_left
                      · simp only [Act.put, List.setIfInBounds_toArray, List.set_cons_zero, List.set_cons_succ, i64_w, i32_w]
                        rfl
                      refine pure_ (i := 8) (N := some 43) (v := ?_) (a' := ?_) #[true, true, false, true, true, false, false, true, true, false, false, false, false, false, false, false, false, false, false, false, false, false, false, false, false, false, false, false, false, false, false, false, false, false, false] rfl rfl (any_of HT_.out (by kernel_rfl)) (fun _ _ _ h => h) (Or.inl ⟨by rfl, ?_⟩) ?_ ?_
                      rotate_left
                      · intro w'
                        go_simp
                        with_reducible rfl
                      rotate_left
                      · simp only [Act.put, List.setIfInBounds_toArray, List.set_cons_zero, List.set_cons_succ, i64_w, i32_w]
                        rfl
                      refine take_ (i := 2) (N := some 37) (v := ?_) (a' := ?_) #[true, true, true, true, true, false, false, true, true, false, false, false, false, false, false, false, false, false, false, false, false, false, false, false, false, false, false, false, false, false, false, false, false, false, false] rfl rfl (take_ofW HT_.out HW_.out (by kernel_rfl)) (fun _ _ _ h => h) (Or.inl ⟨by rfl, ?_⟩) hHeld ?_ ?_
                      rotate_left
                      · rintro w' ⟨s0, s1, s2, s3, s4, s5⟩
                        go_simp
                        with_reducible rfl
                      rotate_left
                      · simp only [Act.put, List.setIfInBounds_toArray, List.set_cons_zero, List.set_cons_succ, i64_w, i32_w]
                        rfl
                      refine take_ (i := 6) (N := some 41) (v := ?_) (a' := ?_) #[true, true, true, true, true, false, true, true, true, false, false, false, false, false, false, false, false, false, false, false, false, false, false, false, false, false, false, false, false, false, false, false, false, false, false] rfl rfl (take_ofW HT_.out HW_.out (by kernel_rfl)) (fun _ _ _ h => h) (Or.inl ⟨by rfl, ?_⟩) hHeld ?_ ?_
                      rotate_left
                      · rintro w' ⟨s0, s1, s2, s3, s4, s5⟩
                        go_simp
                        with_reducible rfl
                      rotate_left
                      · simp only [Act.put, List.setIfInBounds_toArray, List.set_cons_zero, List.set_cons_succ, i64_w, i32_w]
                        rfl
                      refine one_ (i := 5) (N := some 40) #[true, true, true, true, true, true, true, true, true, false, false, false, false, false, false, false, false, false, false, false, false, false, false, false, false, false, false, false, false, false, false, false, false, false, false] rfl rfl (one_of HT_.out (by kernel_rfl)) (by decide) (fun K hK => ?_)
                      refine goes_ Try.func11 (by kernel_rfl) rfl #[.agg #[.int .i64 a0_0, .int .i64 a0_1, .int .i64 a0_2], .slice A1 l1.length c1, .slice A2 l2.length c2] (by rfl) rfl rfl (by (try simp only [List.map_toArray, List.map_cons, List.map_nil]); first | done | rfl | (simp only [List.length_drop, List.length_take]; rfl)) ?_
                      with_reducible refine (notice_Check.calls kj6 a0_0 a0_1 a0_2 _ _ l1 _ _ l2 t141 _ ?side1 ?side2 ?side3 ?side4 A23.out).mono ?_
                      (case side1 => repeat (first | exact (Kd.C_below HR1.out HB.out) | (with_reducible refine Kd.C_alloc ?_ _) | (with_reducible refine Kd.C_drewN ?_ _) | (with_reducible refine Kd.C_drew ?_)))
                      (case side2 => exact HC1.out)
                      (case side3 => repeat (first | exact (Kd.C_below HR2.out HB.out) | (with_reducible refine Kd.C_alloc ?_ _) | (with_reducible refine Kd.C_drewN ?_ _) | (with_reducible refine Kd.C_drew ?_)))
                      (case side4 => exact HC2.out)
                      rintro e w44 ⟨rfl, hb⟩
                      refine ⟨_, rfl, ?_⟩
                      have n0_ := Aside0.mk (Kd.R_below (by (with_reducible repeat (first | apply Kd.R_alloc | apply Kd.R_drewN | apply Kd.R_drew)); exact HO136.out) hb)
                      have n1_ := Aside0.mk (Kd.R_below (by (with_reducible repeat (first | apply Kd.R_alloc | apply Kd.R_drewN | apply Kd.R_drew)); exact HO139.out) hb)
                      have n2_ := Aside0.mk (blk_below (g := gb127) (o := .cells #[.int .i64 a0_0, .int .i64 a0_1, .int .i64 a0_2] 23 (0, 0)) (by (with_reducible repeat (first | refine blk_drewN ?_ _ | refine blk_drew ?_ | refine blk_alloc ?_ _)); exact BK127.out) hb)
                      have n3_ := Aside0.mk (blk_below (g := gb128) (o := .cells #[.int .u8 a3_0, .int .u8 a3_1, .int .u8 a3_2] 26 (0, 0)) (by (with_reducible repeat (first | refine blk_drewN ?_ _ | refine blk_drew ?_ | refine blk_alloc ?_ _)); exact BK128.out) hb)
                      have n4_ := Aside0.mk (blk_below (g := gb133) (o := .cells #[.int .i64 t130, .int .i64 t131, .int .i64 t132] 23 (0, 0)) (by (with_reducible repeat (first | refine blk_drewN ?_ _ | refine blk_drew ?_ | refine blk_alloc ?_ _)); exact BK133.out) hb)
                      have n5_ := Aside0.mk (below_step (by repeat (first | (with_reducible first | exact HB.out | apply below_alloc | apply pw_below_drewN | apply below_drew1 | refine below_set ?_ GE127.out | refine below_set ?_ GE128.out | refine below_set ?_ GE133.out) | exact HB.out)) hb)
                      clear HO136
                      clear HO139
                      clear BK127
                      clear BK128
                      clear BK133
                      clear HB
                      have HO136 := n0_
                      have HO139 := n1_
                      have BK127 := n2_
                      have BK128 := n3_
                      have BK133 := n4_
                      have HB := n5_
                      clear n0_ n1_ n2_ n3_ n4_ n5_
                      (try clear hb)
                      (try clear hb2)
                      (try clear hk)
                      (try clear hi)
                      refine hK.out _ _ ⟨(blk_cell BK127.out 0).trans rfl, (blk_cell BK127.out 1).trans rfl, (blk_cell BK127.out 2).trans rfl, (blk_cell BK133.out 0).trans rfl, (blk_cell BK133.out 1).trans rfl, (blk_cell BK133.out 2).trans rfl⟩ (fun hHeld => ?_)
                      clear hK K
                      refine norm_ (a' := ?_) ?_ ?_
                      rotate_left
                      · show Act.put _ (some 40) _ = _
                        simp only [Act.put, List.setIfInBounds_toArray, List.set_cons_zero, List.set_cons_succ, i64_w, i32_w]
                        rfl
                      refine one_ (i := 9) (N := some 44) #[true, true, true, true, true, true, true, true, true, true, false, false, false, false, false, false, false, false, false, false, false, false, false, false, false, false, false, false, false, false, false, false, false, false, false] rfl rfl (one_of HT_.out (by kernel_rfl)) (by decide) (fun K hK => ?_)
                      refine goes_ Try.func12 (by kernel_rfl) rfl #[.agg #[.int .i64 a0_0, .int .i64 a0_1, .int .i64 a0_2], .slice A1 l1.length c1, .slice A2 l2.length c2] (by rfl) rfl rfl (by (try simp only [List.map_toArray, List.map_cons, List.map_nil]); first | done | rfl | (simp only [List.length_drop, List.length_take]; rfl)) ?_
                      with_reducible refine (insolvencyref33_CheckPost.calls kj6 a0_0 a0_1 a0_2 _ _ l1 _ _ l2 t142 _ ?side1 ?side2 ?side3 ?side4 A24.out).mono ?_
                      (case side1 => repeat (first | exact (Kd.C_below HR1.out HB.out) | (with_reducible refine Kd.C_alloc ?_ _) | (with_reducible refine Kd.C_drewN ?_ _) | (with_reducible refine Kd.C_drew ?_)))
                      (case side2 => exact HC1.out)
                      (case side3 => repeat (first | exact (Kd.C_below HR2.out HB.out) | (with_reducible refine Kd.C_alloc ?_ _) | (with_reducible refine Kd.C_drewN ?_ _) | (with_reducible refine Kd.C_drew ?_)))
                      (case side4 => exact HC2.out)
                      rintro e w45 ⟨rfl, hb⟩
                      refine ⟨_, rfl, ?_⟩
                      have n0_ := Aside0.mk (Kd.R_below (by (with_reducible repeat (first | apply Kd.R_alloc | apply Kd.R_drewN | apply Kd.R_drew)); exact HO136.out) hb)
                      have n1_ := Aside0.mk (Kd.R_below (by (with_reducible repeat (first | apply Kd.R_alloc | apply Kd.R_drewN | apply Kd.R_drew)); exact HO139.out) hb)
                      have n2_ := Aside0.mk (blk_below (g := gb127) (o := .cells #[.int .i64 a0_0, .int .i64 a0_1, .int .i64 a0_2] 23 (0, 0)) (by (with_reducible repeat (first | refine blk_drewN ?_ _ | refine blk_drew ?_ | refine blk_alloc ?_ _)); exact BK127.out) hb)
                      have n3_ := Aside0.mk (blk_below (g := gb128) (o := .cells #[.int .u8 a3_0, .int .u8 a3_1, .int .u8 a3_2] 26 (0, 0)) (by (with_reducible repeat (first | refine blk_drewN ?_ _ | refine blk_drew ?_ | refine blk_alloc ?_ _)); exact BK128.out) hb)
                      have n4_ := Aside0.mk (blk_below (g := gb133) (o := .cells #[.int .i64 t130, .int .i64 t131, .int .i64 t132] 23 (0, 0)) (by (with_reducible repeat (first | refine blk_drewN ?_ _ | refine blk_drew ?_ | refine blk_alloc ?_ _)); exact BK133.out) hb)
                      have n5_ := Aside0.mk (below_step (by repeat (first | (with_reducible first | exact HB.out | apply below_alloc | apply pw_below_drewN | apply below_drew1 | refine below_set ?_ GE127.out | refine below_set ?_ GE128.out | refine below_set ?_ GE133.out) | exact HB.out)) hb)
                      clear HO136
                      clear HO139
                      clear BK127
                      clear BK128
                      clear BK133
                      clear HB
                      have HO136 := n0_
                      have HO139 := n1_
                      have BK127 := n2_
                      have BK128 := n3_
                      have BK133 := n4_
                      have HB := n5_
                      clear n0_ n1_ n2_ n3_ n4_ n5_
                      (try clear hb)
                      (try clear hb2)
                      (try clear hk)
                      (try clear hi)
                      refine hK.out _ _ ⟨(blk_cell BK127.out 0).trans rfl, (blk_cell BK127.out 1).trans rfl, (blk_cell BK127.out 2).trans rfl, (blk_cell BK133.out 0).trans rfl, (blk_cell BK133.out 1).trans rfl, (blk_cell BK133.out 2).trans rfl⟩ (fun hHeld => ?_)
                      clear hK K
                      refine norm_ (a' := ?_) ?_ ?_
                      rotate_left
                      · show Act.put _ (some 44) _ = _
                        simp only [Act.put, List.setIfInBounds_toArray, List.set_cons_zero, List.set_cons_succ, i64_w, i32_w]
                        rfl
                      refine pure_ (i := 10) (N := some 45) (v := ?_) (a' := ?_) #[true, true, true, true, true, true, true, true, true, true, true, false, false, false, false, false, false, false, false, false, false, false, false, false, false, false, false, false, false, false, false, false, false, false, false] rfl rfl (any_of HT_.out (by kernel_rfl)) (fun _ _ _ h => h) (Or.inl ⟨by rfl, ?_⟩) ?_ ?_
                      rotate_left
                      · intro w'
                        go_simp
                        with_reducible rfl
                      rotate_left
                      · simp only [Act.put, List.setIfInBounds_toArray, List.set_cons_zero, List.set_cons_succ, i64_w, i32_w]
                        rfl
                      refine pure_ (i := 11) (N := some 46) (v := ?_) (a' := ?_) #[true, true, true, true, true, true, true, true, true, true, true, true, false, false, false, false, false, false, false, false, false, false, false, false, false, false, false, false, false, false, false, false, false, false, false] rfl rfl (any_of HT_.out (by kernel_rfl)) (fun _ _ _ h => h) (Or.inl ⟨by rfl, ?_⟩) ?_ ?_
                      rotate_left
                      · intro w'
                        go_simp
                        with_reducible rfl
                      rotate_left
                      · simp only [Act.put, List.setIfInBounds_toArray, List.set_cons_zero, List.set_cons_succ, i64_w, i32_w]
                        rfl
                      refine pure_ (i := 12) (N := some 47) (v := ?_) (a' := ?_) #[true, true, true, true, true, true, true, true, true, true, true, true, true, false, false, false, false, false, false, false, false, false, false, false, false, false, false, false, false, false, false, false, false, false, false] rfl rfl (any_of HT_.out (by kernel_rfl)) (fun _ _ _ h => h) (Or.inl ⟨by rfl, ?_⟩) ?_ ?_
                      rotate_left
                      · intro w'
                        go_simp
                        with_reducible rfl
                      rotate_left
                      · simp only [Act.put, List.setIfInBounds_toArray, List.set_cons_zero, List.set_cons_succ, i64_w, i32_w]
                        rfl
                      refine pure_ (i := 14) (N := some 49) (v := ?_) (a' := ?_) #[true, true, true, true, true, true, true, true, true, true, true, true, true, false, true, false, false, false, false, false, false, false, false, false, false, false, false, false, false, false, false, false, false, false, false] rfl rfl (any_of HT_.out (by kernel_rfl)) (fun _ _ _ h => h) (Or.inl ⟨by rfl, ?_⟩) ?_ ?_
                      rotate_left
                      · intro w'
                        go_simp
                        with_reducible rfl
                      rotate_left
                      · simp only [Act.put, List.setIfInBounds_toArray, List.set_cons_zero, List.set_cons_succ, i64_w, i32_w]
                        rfl
                      refine pure_ (i := 15) (N := some 50) (v := ?_) (a' := ?_) #[true, true, true, true, true, true, true, true, true, true, true, true, true, false, true, true, false, false, false, false, false, false, false, false, false, false, false, false, false, false, false, false, false, false, false] rfl rfl (any_of HT_.out (by kernel_rfl)) (fun _ _ _ h => h) (Or.inl ⟨by rfl, ?_⟩) ?_ ?_
                      rotate_left
                      · intro w'
                        go_simp
                        with_reducible rfl
                      rotate_left
                      · simp only [Act.put, List.setIfInBounds_toArray, List.set_cons_zero, List.set_cons_succ, i64_w, i32_w]
                        rfl
                      refine pure_ (i := 18) (N := some 53) (v := ?_) (a' := ?_) #[true, true, true, true, true, true, true, true, true, true, true, true, true, false, true, true, false, false, true, false, false, false, false, false, false, false, false, false, false, false, false, false, false, false, false] rfl rfl (any_of HT_.out (by kernel_rfl)) (fun _ _ _ h => h) (Or.inl ⟨by rfl, ?_⟩) ?_ ?_
                      rotate_left
                      · intro w'
                        go_simp
                        with_reducible rfl
                      rotate_left
                      · simp only [Act.put, List.setIfInBounds_toArray, List.set_cons_zero, List.set_cons_succ, i64_w, i32_w]
                        rfl
                      refine pure_ (i := 19) (N := some 54) (v := ?_) (a' := ?_) #[true, true, true, true, true, true, true, true, true, true, true, true, true, false, true, true, false, false, true, true, false, false, false, false, false, false, false, false, false, false, false, false, false, false, false] rfl rfl (any_of HT_.out (by kernel_rfl)) (fun _ _ _ h => h) (Or.inl ⟨by rfl, ?_⟩) ?_ ?_
                      rotate_left
                      · intro w'
                        go_simp
                        with_reducible rfl
                      rotate_left
                      · simp only [Act.put, List.setIfInBounds_toArray, List.set_cons_zero, List.set_cons_succ, i64_w, i32_w]
                        rfl
                      refine take_ (i := 13) (N := some 48) (v := ?_) (a' := ?_) #[true, true, true, true, true, true, true, true, true, true, true, true, true, true, true, true, false, false, true, true, false, false, false, false, false, false, false, false, false, false, false, false, false, false, false] rfl rfl (take_ofW HT_.out HW_.out (by kernel_rfl)) (fun _ _ _ h => h) (Or.inl ⟨by rfl, ?_⟩) hHeld ?_ ?_
                      rotate_left
                      · rintro w' ⟨s0, s1, s2, s3, s4, s5⟩
                        go_simp
                        with_reducible rfl
                      rotate_left
                      · simp only [Act.put, List.setIfInBounds_toArray, List.set_cons_zero, List.set_cons_succ, i64_w, i32_w]
                        rfl
                      refine take_ (i := 17) (N := some 52) (v := ?_) (a' := ?_) #[true, true, true, true, true, true, true, true, true, true, true, true, true, true, true, true, false, true, true, true, false, false, false, false, false, false, false, false, false, false, false, false, false, false, false] rfl rfl (take_ofW HT_.out HW_.out (by kernel_rfl)) (fun _ _ _ h => h) (Or.inl ⟨by rfl, ?_⟩) hHeld ?_ ?_
                      rotate_left
                      · rintro w' ⟨s0, s1, s2, s3, s4, s5⟩
                        go_simp
                        with_reducible rfl
                      rotate_left
                      · simp only [Act.put, List.setIfInBounds_toArray, List.set_cons_zero, List.set_cons_succ, i64_w, i32_w]
                        rfl
                      refine one_ (i := 16) (N := some 51) #[true, true, true, true, true, true, true, true, true, true, true, true, true, true, true, true, true, true, true, true, false, false, false, false, false, false, false, false, false, false, false, false, false, false, false] rfl rfl (one_of HT_.out (by kernel_rfl)) (by decide) (fun K hK => ?_)
                      refine goes_ Try.func11 (by kernel_rfl) rfl #[.agg #[.int .i64 t130, .int .i64 t131, .int .i64 t132], .slice A1 l1.length c1, .slice A2 l2.length c2] (by rfl) rfl rfl (by (try simp only [List.map_toArray, List.map_cons, List.map_nil]); first | done | rfl | (simp only [List.length_drop, List.length_take]; rfl)) ?_
                      with_reducible refine (notice_Check.calls kj6 t130 t131 t132 _ _ l1 _ _ l2 t143 _ ?side1 ?side2 ?side3 ?side4 A26.out).mono ?_
                      (case side1 => repeat (first | exact (Kd.C_below HR1.out HB.out) | (with_reducible refine Kd.C_alloc ?_ _) | (with_reducible refine Kd.C_drewN ?_ _) | (with_reducible refine Kd.C_drew ?_)))
                      (case side2 => exact HC1.out)
                      (case side3 => repeat (first | exact (Kd.C_below HR2.out HB.out) | (with_reducible refine Kd.C_alloc ?_ _) | (with_reducible refine Kd.C_drewN ?_ _) | (with_reducible refine Kd.C_drew ?_)))
                      (case side4 => exact HC2.out)
                      rintro e w46 ⟨rfl, hb⟩
                      refine ⟨_, rfl, ?_⟩
                      have n0_ := Aside0.mk (Kd.R_below (by (with_reducible repeat (first | apply Kd.R_alloc | apply Kd.R_drewN | apply Kd.R_drew)); exact HO136.out) hb)
                      have n1_ := Aside0.mk (Kd.R_below (by (with_reducible repeat (first | apply Kd.R_alloc | apply Kd.R_drewN | apply Kd.R_drew)); exact HO139.out) hb)
                      have n2_ := Aside0.mk (blk_below (g := gb127) (o := .cells #[.int .i64 a0_0, .int .i64 a0_1, .int .i64 a0_2] 23 (0, 0)) (by (with_reducible repeat (first | refine blk_drewN ?_ _ | refine blk_drew ?_ | refine blk_alloc ?_ _)); exact BK127.out) hb)
                      have n3_ := Aside0.mk (blk_below (g := gb128) (o := .cells #[.int .u8 a3_0, .int .u8 a3_1, .int .u8 a3_2] 26 (0, 0)) (by (with_reducible repeat (first | refine blk_drewN ?_ _ | refine blk_drew ?_ | refine blk_alloc ?_ _)); exact BK128.out) hb)
                      have n4_ := Aside0.mk (blk_below (g := gb133) (o := .cells #[.int .i64 t130, .int .i64 t131, .int .i64 t132] 23 (0, 0)) (by (with_reducible repeat (first | refine blk_drewN ?_ _ | refine blk_drew ?_ | refine blk_alloc ?_ _)); exact BK133.out) hb)
                      have n5_ := Aside0.mk (below_step (by repeat (first | (with_reducible first | exact HB.out | apply below_alloc | apply pw_below_drewN | apply below_drew1 | refine below_set ?_ GE127.out | refine below_set ?_ GE128.out | refine below_set ?_ GE133.out) | exact HB.out)) hb)
                      clear HO136
                      clear HO139
                      clear BK127
                      clear BK128
                      clear BK133
                      clear HB
                      have HO136 := n0_
                      have HO139 := n1_
                      have BK127 := n2_
                      have BK128 := n3_
                      have BK133 := n4_
                      have HB := n5_
                      clear n0_ n1_ n2_ n3_ n4_ n5_
                      (try clear hb)
                      (try clear hb2)
                      (try clear hk)
                      (try clear hi)
                      refine hK.out _ _ ⟨(blk_cell BK127.out 0).trans rfl, (blk_cell BK127.out 1).trans rfl, (blk_cell BK127.out 2).trans rfl, (blk_cell BK133.out 0).trans rfl, (blk_cell BK133.out 1).trans rfl, (blk_cell BK133.out 2).trans rfl⟩ (fun hHeld => ?_)
                      clear hK K
                      refine norm_ (a' := ?_) ?_ ?_
                      rotate_left
                      · show Act.put _ (some 51) _ = _
                        simp only [Act.put, List.setIfInBounds_toArray, List.set_cons_zero, List.set_cons_succ, i64_w, i32_w]
                        rfl
                      refine one_ (i := 20) (N := some 55) #[true, true, true, true, true, true, true, true, true, true, true, true, true, true, true, true, true, true, true, true, true, false, false, false, false, false, false, false, false, false, false, false, false, false, false] rfl rfl (one_of HT_.out (by kernel_rfl)) (by decide) (fun K hK => ?_)
                      refine goes_ Try.func12 (by kernel_rfl) rfl #[.agg #[.int .i64 t130, .int .i64 t131, .int .i64 t132], .slice A1 l1.length c1, .slice A2 l2.length c2] (by rfl) rfl rfl (by (try simp only [List.map_toArray, List.map_cons, List.map_nil]); first | done | rfl | (simp only [List.length_drop, List.length_take]; rfl)) ?_
                      with_reducible refine (insolvencyref33_CheckPost.calls kj6 t130 t131 t132 _ _ l1 _ _ l2 t144 _ ?side1 ?side2 ?side3 ?side4 A27.out).mono ?_
                      (case side1 => repeat (first | exact (Kd.C_below HR1.out HB.out) | (with_reducible refine Kd.C_alloc ?_ _) | (with_reducible refine Kd.C_drewN ?_ _) | (with_reducible refine Kd.C_drew ?_)))
                      (case side2 => exact HC1.out)
                      (case side3 => repeat (first | exact (Kd.C_below HR2.out HB.out) | (with_reducible refine Kd.C_alloc ?_ _) | (with_reducible refine Kd.C_drewN ?_ _) | (with_reducible refine Kd.C_drew ?_)))
                      (case side4 => exact HC2.out)
                      rintro e w47 ⟨rfl, hb⟩
                      refine ⟨_, rfl, ?_⟩
                      have n0_ := Aside0.mk (Kd.R_below (by (with_reducible repeat (first | apply Kd.R_alloc | apply Kd.R_drewN | apply Kd.R_drew)); exact HO136.out) hb)
                      have n1_ := Aside0.mk (Kd.R_below (by (with_reducible repeat (first | apply Kd.R_alloc | apply Kd.R_drewN | apply Kd.R_drew)); exact HO139.out) hb)
                      have n2_ := Aside0.mk (blk_below (g := gb127) (o := .cells #[.int .i64 a0_0, .int .i64 a0_1, .int .i64 a0_2] 23 (0, 0)) (by (with_reducible repeat (first | refine blk_drewN ?_ _ | refine blk_drew ?_ | refine blk_alloc ?_ _)); exact BK127.out) hb)
                      have n3_ := Aside0.mk (blk_below (g := gb128) (o := .cells #[.int .u8 a3_0, .int .u8 a3_1, .int .u8 a3_2] 26 (0, 0)) (by (with_reducible repeat (first | refine blk_drewN ?_ _ | refine blk_drew ?_ | refine blk_alloc ?_ _)); exact BK128.out) hb)
                      have n4_ := Aside0.mk (blk_below (g := gb133) (o := .cells #[.int .i64 t130, .int .i64 t131, .int .i64 t132] 23 (0, 0)) (by (with_reducible repeat (first | refine blk_drewN ?_ _ | refine blk_drew ?_ | refine blk_alloc ?_ _)); exact BK133.out) hb)
                      have n5_ := Aside0.mk (below_step (by repeat (first | (with_reducible first | exact HB.out | apply below_alloc | apply pw_below_drewN | apply below_drew1 | refine below_set ?_ GE127.out | refine below_set ?_ GE128.out | refine below_set ?_ GE133.out) | exact HB.out)) hb)
                      clear HO136
                      clear HO139
                      clear BK127
                      clear BK128
                      clear BK133
                      clear HB
                      have HO136 := n0_
                      have HO139 := n1_
                      have BK127 := n2_
                      have BK128 := n3_
                      have BK133 := n4_
                      have HB := n5_
                      clear n0_ n1_ n2_ n3_ n4_ n5_
                      (try clear hb)
                      (try clear hb2)
                      (try clear hk)
                      (try clear hi)
                      obtain ⟨Ao48, co48, eo48⟩ := Kd.R_slice HO136.out
                      (first | subst eo48 | (injection eo48 with f1_ f2_ f3_; have f4_ := f1_.symm; have f5_ := f3_.symm; clear f1_ f2_ f3_; subst f4_; subst f5_))
                      obtain ⟨Ao49, co49, eo49⟩ := Kd.R_slice HO139.out
                      (first | subst eo49 | (injection eo49 with f1_ f2_ f3_; have f4_ := f1_.symm; have f5_ := f3_.symm; clear f1_ f2_ f3_; subst f4_; subst f5_))
                      refine hK.out _ _ ⟨(blk_cell BK127.out 0).trans rfl, (blk_cell BK127.out 1).trans rfl, (blk_cell BK127.out 2).trans rfl, (blk_cell BK133.out 0).trans rfl, (blk_cell BK133.out 1).trans rfl, (blk_cell BK133.out 2).trans rfl⟩ (fun hHeld => ?_)
                      clear hK K
                      refine norm_ (a' := ?_) ?_ ?_
                      rotate_left
                      · show Act.put _ (some 55) _ = _
                        simp only [Act.put, List.setIfInBounds_toArray, List.set_cons_zero, List.set_cons_succ, i64_w, i32_w]
                        rfl
                      refine pure_ (i := 21) (N := some 56) (v := ?_) (a' := ?_) #[true, true, true, true, true, true, true, true, true, true, true, true, true, true, true, true, true, true, true, true, true, true, false, false, false, false, false, false, false, false, false, false, false, false, false] rfl rfl (any_of HT_.out (by kernel_rfl)) (fun _ _ _ h => h) (Or.inl ⟨by rfl, ?_⟩) ?_ ?_
                      rotate_left
                      · intro w'
                        go_simp
                        with_reducible rfl
                      rotate_left
                      · simp only [Act.put, List.setIfInBounds_toArray, List.set_cons_zero, List.set_cons_succ, i64_w, i32_w]
                        rfl
                      refine pure_ (i := 22) (N := some 57) (v := ?_) (a' := ?_) #[true, true, true, true, true, true, true, true, true, true, true, true, true, true, true, true, true, true, true, true, true, true, true, false, false, false, false, false, false, false, false, false, false, false, false] rfl rfl (any_of HT_.out (by kernel_rfl)) (fun _ _ _ h => h) (Or.inl ⟨by rfl, ?_⟩) ?_ ?_
                      rotate_left
                      · intro w'
                        go_simp
                        with_reducible rfl
                      rotate_left
                      · simp only [Act.put, List.setIfInBounds_toArray, List.set_cons_zero, List.set_cons_succ, i64_w, i32_w]
                        rfl
                      refine pure_ (i := 23) (N := some 58) (v := ?_) (a' := ?_) #[true, true, true, true, true, true, true, true, true, true, true, true, true, true, true, true, true, true, true, true, true, true, true, true, false, false, false, false, false, false, false, false, false, false, false] rfl rfl (any_of HT_.out (by kernel_rfl)) (fun _ _ _ h => h) (Or.inl ⟨by rfl, ?_⟩) ?_ ?_
                      rotate_left
                      · intro w'
                        go_simp
                        with_reducible rfl
                      rotate_left
                      · simp only [Act.put, List.setIfInBounds_toArray, List.set_cons_zero, List.set_cons_succ, i64_w, i32_w]
                        rfl
                      refine pure_ (i := 25) (N := some 60) (v := ?_) (a' := ?_) #[true, true, true, true, true, true, true, true, true, true, true, true, true, true, true, true, true, true, true, true, true, true, true, true, false, true, false, false, false, false, false, false, false, false, false] rfl rfl (any_of HT_.out (by kernel_rfl)) (fun _ _ _ h => h) (Or.inl ⟨by rfl, ?_⟩) ?_ ?_
                      rotate_left
                      · intro w'
                        go_simp
                        with_reducible rfl
                      rotate_left
                      · simp only [Act.put, List.setIfInBounds_toArray, List.set_cons_zero, List.set_cons_succ, i64_w, i32_w]
                        rfl
                      refine pure_ (i := 26) (N := some 61) (v := ?_) (a' := ?_) #[true, true, true, true, true, true, true, true, true, true, true, true, true, true, true, true, true, true, true, true, true, true, true, true, false, true, true, false, false, false, false, false, false, false, false] rfl rfl (any_of HT_.out (by kernel_rfl)) (fun _ _ _ h => h) (Or.inl ⟨by rfl, ?_⟩) ?_ ?_
                      rotate_left
                      · intro w'
                        go_simp
                        with_reducible rfl
                      rotate_left
                      · simp only [Act.put, List.setIfInBounds_toArray, List.set_cons_zero, List.set_cons_succ, i64_w, i32_w]
                        rfl
                      refine pure_ (i := 29) (N := some 64) (v := ?_) (a' := ?_) #[true, true, true, true, true, true, true, true, true, true, true, true, true, true, true, true, true, true, true, true, true, true, true, true, false, true, true, false, false, true, false, false, false, false, false] rfl rfl (any_of HT_.out (by kernel_rfl)) (fun _ _ _ h => h) (Or.inl ⟨by rfl, ?_⟩) ?_ ?_
                      rotate_left
                      · intro w'
                        go_simp
                        with_reducible rfl
                      rotate_left
                      · simp only [Act.put, List.setIfInBounds_toArray, List.set_cons_zero, List.set_cons_succ, i64_w, i32_w]
                        rfl
                      refine pure_ (i := 30) (N := some 65) (v := ?_) (a' := ?_) #[true, true, true, true, true, true, true, true, true, true, true, true, true, true, true, true, true, true, true, true, true, true, true, true, false, true, true, false, false, true, true, false, false, false, false] rfl rfl (any_of HT_.out (by kernel_rfl)) (fun _ _ _ h => h) (Or.inl ⟨by rfl, ?_⟩) ?_ ?_
                      rotate_left
                      · intro w'
                        go_simp
                        with_reducible rfl
                      rotate_left
                      · simp only [Act.put, List.setIfInBounds_toArray, List.set_cons_zero, List.set_cons_succ, i64_w, i32_w]
                        rfl
                      refine take_ (i := 24) (N := some 59) (v := ?_) (a' := ?_) #[true, true, true, true, true, true, true, true, true, true, true, true, true, true, true, true, true, true, true, true, true, true, true, true, true, true, true, false, false, true, true, false, false, false, false] rfl rfl (take_ofW HT_.out HW_.out (by kernel_rfl)) (fun _ _ _ h => h) (Or.inl ⟨by rfl, ?_⟩) hHeld ?_ ?_
                      rotate_left
                      · rintro w' ⟨s0, s1, s2, s3, s4, s5⟩
                        go_simp
                        with_reducible rfl
                      rotate_left
                      · simp only [Act.put, List.setIfInBounds_toArray, List.set_cons_zero, List.set_cons_succ, i64_w, i32_w]
                        rfl
                      refine take_ (i := 28) (N := some 63) (v := ?_) (a' := ?_) #[true, true, true, true, true, true, true, true, true, true, true, true, true, true, true, true, true, true, true, true, true, true, true, true, true, true, true, false, true, true, true, false, false, false, false] rfl rfl (take_ofW HT_.out HW_.out (by kernel_rfl)) (fun _ _ _ h => h) (Or.inl ⟨by rfl, ?_⟩) hHeld ?_ ?_
                      rotate_left
                      · rintro w' ⟨s0, s1, s2, s3, s4, s5⟩
                        go_simp
                        with_reducible rfl
                      rotate_left
                      · simp only [Act.put, List.setIfInBounds_toArray, List.set_cons_zero, List.set_cons_succ, i64_w, i32_w]
                        rfl
                      refine one_ (i := 27) (N := some 62) #[true, true, true, true, true, true, true, true, true, true, true, true, true, true, true, true, true, true, true, true, true, true, true, true, true, true, true, true, true, true, true, false, false, false, false] rfl rfl (one_of HT_.out (by kernel_rfl)) (by decide) (fun K hK => ?_)
                      refine goes_ Try.func11 (by kernel_rfl) rfl #[.agg #[.int .i64 t130, .int .i64 t131, .int .i64 t132], .slice Ao48 y134.length co48, .slice Ao49 y137.length co49] (by rfl) rfl rfl (by (try simp only [List.map_toArray, List.map_cons, List.map_nil]); first | done | rfl | (simp only [List.length_drop, List.length_take]; rfl)) ?_
                      with_reducible refine (notice_Check.calls kj6 t130 t131 t132 _ _ y134 _ _ y137 t145 _ ?side1 ?side2 ?side3 ?side4 A29.out).mono ?_
                      (case side1 => repeat (first | exact (Kd.R_reads' HO136.out).2.2 | (with_reducible refine Kd.C_alloc ?_ _) | (with_reducible refine Kd.C_drewN ?_ _) | (with_reducible refine Kd.C_drew ?_)))
                      (case side2 => exact (Kd.R_reads' HO136.out).2.1)
                      (case side3 => repeat (first | exact (Kd.R_reads' HO139.out).2.2 | (with_reducible refine Kd.C_alloc ?_ _) | (with_reducible refine Kd.C_drewN ?_ _) | (with_reducible refine Kd.C_drew ?_)))
                      (case side4 => exact (Kd.R_reads' HO139.out).2.1)
                      rintro e w50 ⟨rfl, hb⟩
                      refine ⟨_, rfl, ?_⟩
                      have n0_ := Aside0.mk (Kd.R_below (by (with_reducible repeat (first | apply Kd.R_alloc | apply Kd.R_drewN | apply Kd.R_drew)); exact HO136.out) hb)
                      have n1_ := Aside0.mk (Kd.R_below (by (with_reducible repeat (first | apply Kd.R_alloc | apply Kd.R_drewN | apply Kd.R_drew)); exact HO139.out) hb)
                      have n2_ := Aside0.mk (blk_below (g := gb127) (o := .cells #[.int .i64 a0_0, .int .i64 a0_1, .int .i64 a0_2] 23 (0, 0)) (by (with_reducible repeat (first | refine blk_drewN ?_ _ | refine blk_drew ?_ | refine blk_alloc ?_ _)); exact BK127.out) hb)
                      have n3_ := Aside0.mk (blk_below (g := gb128) (o := .cells #[.int .u8 a3_0, .int .u8 a3_1, .int .u8 a3_2] 26 (0, 0)) (by (with_reducible repeat (first | refine blk_drewN ?_ _ | refine blk_drew ?_ | refine blk_alloc ?_ _)); exact BK128.out) hb)
                      have n4_ := Aside0.mk (blk_below (g := gb133) (o := .cells #[.int .i64 t130, .int .i64 t131, .int .i64 t132] 23 (0, 0)) (by (with_reducible repeat (first | refine blk_drewN ?_ _ | refine blk_drew ?_ | refine blk_alloc ?_ _)); exact BK133.out) hb)
                      have n5_ := Aside0.mk (below_step (by repeat (first | (with_reducible first | exact HB.out | apply below_alloc | apply pw_below_drewN | apply below_drew1 | refine below_set ?_ GE127.out | refine below_set ?_ GE128.out | refine below_set ?_ GE133.out) | exact HB.out)) hb)
                      clear HO136
                      clear HO139
                      clear BK127
                      clear BK128
                      clear BK133
                      clear HB
                      have HO136 := n0_
                      have HO139 := n1_
                      have BK127 := n2_
                      have BK128 := n3_
                      have BK133 := n4_
                      have HB := n5_
                      clear n0_ n1_ n2_ n3_ n4_ n5_
                      (try clear hb)
                      (try clear hb2)
                      (try clear hk)
                      (try clear hi)
                      refine hK.out _ _ ⟨(blk_cell BK127.out 0).trans rfl, (blk_cell BK127.out 1).trans rfl, (blk_cell BK127.out 2).trans rfl, (blk_cell BK133.out 0).trans rfl, (blk_cell BK133.out 1).trans rfl, (blk_cell BK133.out 2).trans rfl⟩ (fun hHeld => ?_)
                      clear hK K
                      refine norm_ (a' := ?_) ?_ ?_
                      rotate_left
                      · show Act.put _ (some 62) _ = _
                        simp only [Act.put, List.setIfInBounds_toArray, List.set_cons_zero, List.set_cons_succ, i64_w, i32_w]
                        rfl
                      refine one_ (i := 31) (N := some 66) #[true, true, true, true, true, true, true, true, true, true, true, true, true, true, true, true, true, true, true, true, true, true, true, true, true, true, true, true, true, true, true, true, false, false, false] rfl rfl (one_of HT_.out (by kernel_rfl)) (by decide) (fun K hK => ?_)
                      refine goes_ Try.func12 (by kernel_rfl) rfl #[.agg #[.int .i64 t130, .int .i64 t131, .int .i64 t132], .slice Ao48 y134.length co48, .slice Ao49 y137.length co49] (by rfl) rfl rfl (by (try simp only [List.map_toArray, List.map_cons, List.map_nil]); first | done | rfl | (simp only [List.length_drop, List.length_take]; rfl)) ?_
                      with_reducible refine (insolvencyref33_CheckPost.calls kj6 t130 t131 t132 _ _ y134 _ _ y137 t146 _ ?side1 ?side2 ?side3 ?side4 A30.out).mono ?_
                      (case side1 => repeat (first | exact (Kd.R_reads' HO136.out).2.2 | (with_reducible refine Kd.C_alloc ?_ _) | (with_reducible refine Kd.C_drewN ?_ _) | (with_reducible refine Kd.C_drew ?_)))
                      (case side2 => exact (Kd.R_reads' HO136.out).2.1)
                      (case side3 => repeat (first | exact (Kd.R_reads' HO139.out).2.2 | (with_reducible refine Kd.C_alloc ?_ _) | (with_reducible refine Kd.C_drewN ?_ _) | (with_reducible refine Kd.C_drew ?_)))
                      (case side4 => exact (Kd.R_reads' HO139.out).2.1)
                      rintro e w51 ⟨rfl, hb⟩
                      refine ⟨_, rfl, ?_⟩
                      have n0_ := Aside0.mk (Kd.R_below (by (with_reducible repeat (first | apply Kd.R_alloc | apply Kd.R_drewN | apply Kd.R_drew)); exact HO136.out) hb)
                      have n1_ := Aside0.mk (Kd.R_below (by (with_reducible repeat (first | apply Kd.R_alloc | apply Kd.R_drewN | apply Kd.R_drew)); exact HO139.out) hb)
                      have n2_ := Aside0.mk (blk_below (g := gb127) (o := .cells #[.int .i64 a0_0, .int .i64 a0_1, .int .i64 a0_2] 23 (0, 0)) (by (with_reducible repeat (first | refine blk_drewN ?_ _ | refine blk_drew ?_ | refine blk_alloc ?_ _)); exact BK127.out) hb)
                      have n3_ := Aside0.mk (blk_below (g := gb128) (o := .cells #[.int .u8 a3_0, .int .u8 a3_1, .int .u8 a3_2] 26 (0, 0)) (by (with_reducible repeat (first | refine blk_drewN ?_ _ | refine blk_drew ?_ | refine blk_alloc ?_ _)); exact BK128.out) hb)
                      have n4_ := Aside0.mk (blk_below (g := gb133) (o := .cells #[.int .i64 t130, .int .i64 t131, .int .i64 t132] 23 (0, 0)) (by (with_reducible repeat (first | refine blk_drewN ?_ _ | refine blk_drew ?_ | refine blk_alloc ?_ _)); exact BK133.out) hb)
                      have n5_ := Aside0.mk (below_step (by repeat (first | (with_reducible first | exact HB.out | apply below_alloc | apply pw_below_drewN | apply below_drew1 | refine below_set ?_ GE127.out | refine below_set ?_ GE128.out | refine below_set ?_ GE133.out) | exact HB.out)) hb)
                      clear HO136
                      clear HO139
                      clear BK127
                      clear BK128
                      clear BK133
                      clear HB
                      have HO136 := n0_
                      have HO139 := n1_
                      have BK127 := n2_
                      have BK128 := n3_
                      have BK133 := n4_
                      have HB := n5_
                      clear n0_ n1_ n2_ n3_ n4_ n5_
                      (try clear hb)
                      (try clear hb2)
                      (try clear hk)
                      (try clear hi)
                      refine hK.out _ _ ⟨(blk_cell BK127.out 0).trans rfl, (blk_cell BK127.out 1).trans rfl, (blk_cell BK127.out 2).trans rfl, (blk_cell BK133.out 0).trans rfl, (blk_cell BK133.out 1).trans rfl, (blk_cell BK133.out 2).trans rfl⟩ (fun hHeld => ?_)
                      clear hK K
                      refine norm_ (a' := ?_) ?_ ?_
                      rotate_left
                      · show Act.put _ (some 66) _ = _
                        simp only [Act.put, List.setIfInBounds_toArray, List.set_cons_zero, List.set_cons_succ, i64_w, i32_w]
                        rfl
                      refine pure_ (i := 32) (N := some 67) (v := ?_) (a' := ?_) #[true, true, true, true, true, true, true, true, true, true, true, true, true, true, true, true, true, true, true, true, true, true, true, true, true, true, true, true, true, true, true, true, true, false, false] rfl rfl (any_of HT_.out (by kernel_rfl)) (fun _ _ _ h => h) (Or.inl ⟨by rfl, ?_⟩) ?_ ?_
                      rotate_left
                      · intro w'
                        go_simp
                        with_reducible rfl
                      rotate_left
                      · simp only [Act.put, List.setIfInBounds_toArray, List.set_cons_zero, List.set_cons_succ, i64_w, i32_w]
                        rfl
                      refine pure_ (i := 33) (N := some 68) (v := ?_) (a' := ?_) #[true, true, true, true, true, true, true, true, true, true, true, true, true, true, true, true, true, true, true, true, true, true, true, true, true, true, true, true, true, true, true, true, true, true, false] rfl rfl (any_of HT_.out (by kernel_rfl)) (fun _ _ _ h => h) (Or.inl ⟨by rfl, ?_⟩) ?_ ?_
                      rotate_left
                      · intro w'
                        go_simp
                        with_reducible rfl
                      rotate_left
                      · simp only [Act.put, List.setIfInBounds_toArray, List.set_cons_zero, List.set_cons_succ, i64_w, i32_w]
                        rfl
                      refine pure_ (i := 34) (N := some 12) (v := ?_) (a' := ?_) #[true, true, true, true, true, true, true, true, true, true, true, true, true, true, true, true, true, true, true, true, true, true, true, true, true, true, true, true, true, true, true, true, true, true, true] rfl rfl (any_of HT_.out (by kernel_rfl)) (fun _ _ _ h => h) (Or.inl ⟨by rfl, ?_⟩) ?_ ?_
                      rotate_left
                      · intro w'
                        go_simp
                        with_reducible rfl
                      rotate_left
                      · simp only [Act.put, List.setIfInBounds_toArray, List.set_cons_zero, List.set_cons_succ, i64_w, i32_w]
                        rfl
                      refine done_ (done_of HT_.out (by kernel_rfl)) ?_
                      try go_wp2
                      go_ret
                      exact ⟨by first | rfl | (simp [errW_none, errW_some] <;> rfl) | (simp only [← hji15, ← hji18]; first | rfl | (simp [errW_none, errW_some] <;> rfl)) | (simp [*, errW_none, errW_some] <;> rfl), by repeat (first | (with_reducible first | exact HB.out | apply below_alloc | apply pw_below_drewN | apply below_drew1 | refine below_set ?_ GE127.out | refine below_set ?_ GE128.out | refine below_set ?_ GE133.out) | exact HB.out)⟩
                    · rw [if_neg c28] at H
                      exact absurd H (by simp)
                  · rw [if_neg c25] at H
                    exact absurd H (by simp)
                · replace c22 := Bool.eq_false_iff.mpr c22
                  subst c22
                  have H1 : (none) = some r := by rw [if_neg (show ¬ (false = true) by decide)] at H; exact H
                  clear H
                  have H := H1
                  clear H1
                  exact absurd H (by simp)
              · rw [if_neg c20] at H
                exact absurd H (by simp)
            · rw [if_neg c19] at H
              exact absurd H (by simp)
          · rw [if_neg c17] at H
            exact absurd H (by simp)
        · rw [if_neg c16] at H
          exact absurd H (by simp)

end Go.Proofs.Ytjdkfdcaicdenaa.F
