/- What the Go functions named below come to, each told as a Lean function ('.f'), with the proof ('.calls'): no condition beyond those that each theorem states. Written by a program of this session's over the translation. -/
import Derived.Test.YtjdkfdcaicdenaaF0
import Derived.Test.YtjdkfdcaicdenaaF1
import Derived.Test.YtjdkfdcaicdenaaF2
import Derived.Test.YtjdkfdcaicdenaaF4
import Derived.Test.YtjdkfdcaicdenaaGserve
namespace Go.Proofs.Ytjdkfdcaicdenaa.F
open Go.RowKit Go.Proofs.YtjdkfdcaicdenaaW.PrintWords Go.Proofs.YtjdkfdcaicdenaaW.PrintLast Go.Proofs.YtjdkfdcaicdenaaW.PrintMore
attribute [local go_sem] max2_int min2_int max_two min_two max_three min_three max_four min_four   -- for this text's walks alone
set_option linter.unusedVariables false
set_option linter.unusedSimpArgs false

attribute [local go_sem high] eqA50
/-! ### insolvencylaw34_NoticeAlone: function 8 -/
def insolvencylaw34_NoticeAlone.l0 : Nat → List (S46) → Int → List (S54) → List (S54) → Int → Int → Int → Int → Option (Bool)
  | 0, _, _, _, _, _, _, _, _ => none
  | k + 1, x10, x11, x12, x13, x14, x310000, x310001, x310002 => if x14 < (x12.length : Int) then (if 0 ≤ x14 then (if ((rd_T54 x12 x14).f0) = x11 then (if x13.length < 5864062014805 then (insolvencylaw34_NoticeAlone.l0 k x10 x11 x12 (x13 ++ [(⟨0, (rd_T54 x12 x14).f1, (rd_T54 x12 x14).f2⟩ : S54)]) (wrap64 (x14 + 1)) x310000 x310001 x310002) else (none)) else (insolvencylaw34_NoticeAlone.l0 k x10 x11 x12 x13 (wrap64 (x14 + 1)) x310000 x310001 x310002)) else (none)) else ((notice_Serve.f k x310000 x310001 x310002 x10 x12).bind fun bt323 => (if 0 ≤ x11 then (if x11 ≤ (wrap64 (x11 + 1)) then (if (wrap64 (x11 + 1)) ≤ (x10.length : Int) then ((notice_Serve.f k x310000 x310001 x310002 ((x10.take ((wrap64 (x11 + 1)) : Int).toNat).drop (x11 : Int).toNat) x13).bind fun bt331 => ((insolvencylaw34_awake.f k).bind fun t335 => (if t335 = true then (if bt323.2 = 0 then (if bt331.2 = 0 then (if (bt323.1.length : Int) = (x10.length : Int) then (if (bt331.1.length : Int) = 1 then (if x11 < (bt323.1.length : Int) then (if 0 < (bt331.1.length : Int) then (some (((rd_T50 bt323.1 x11).f0) == ((rd_T50 bt331.1 0).f0) && (((rd_T50 bt323.1 x11).f1) == ((rd_T50 bt331.1 0).f1) && (((rd_T50 bt323.1 x11).f2) == ((rd_T50 bt331.1 0).f2) && (((rd_T50 bt323.1 x11).f3) == ((rd_T50 bt331.1 0).f3)))))) else (none)) else (none)) else (none)) else (none)) else (none)) else (none)) else (none)))) else (none)) else (none)) else (none)))
def insolvencylaw34_NoticeAlone.f (k : Nat) (a0_0 : Int) (a0_1 : Int) (a0_2 : Int) (l1 : List Int) (l2 : List (S26)) (a3 : Int) : Option (Bool) := (insolvencylaw0_Post.f a0_0 a0_1 a0_2).bind fun bt306 => ((insolvencylaw0_Notices.f k l1).bind fun t310 => (if (t310.length : Int) = 0 then ((insolvencylaw34_awake.f k).bind fun t313 => (some t313)) else ((insolvencylaw0_Losses.f k l2).bind fun t314 => (insolvencylaw34_NoticeAlone.l0 k t310 (Int.tmod (wrap64 (a3)) (t310.length : Int)) t314 ([] : List (S54)) 0 bt306.1 bt306.2.1 bt306.2.2))))
theorem insolvencylaw34_NoticeAlone.mono_l : ∀ k, (∀ y0 y1 y2 y3 y4 y5 y6 y7, LeO (insolvencylaw34_NoticeAlone.l0 k y0 y1 y2 y3 y4 y5 y6 y7) (insolvencylaw34_NoticeAlone.l0 (k + 1) y0 y1 y2 y3 y4 y5 y6 y7))
  | 0 => fun _ _ _ _ _ _ _ _ r h => by simp [insolvencylaw34_NoticeAlone.l0] at h
  | k + 1 => by
    have ih0 := insolvencylaw34_NoticeAlone.mono_l k
    · intro y0 y1 y2 y3 y4 y5 y6 y7
      unfold insolvencylaw34_NoticeAlone.l0
      repeat' first
      | (with_reducible exact ih0 _ _ _ _ _ _ _ _)
      | (with_reducible exact insolvencylaw0_Losses.mono _ _)
      | (with_reducible exact insolvencylaw0_Notices.mono _ _)
      | (with_reducible exact insolvencylaw34_awake.mono _)
      | (with_reducible exact notice_Serve.mono _ _ _ _ _ _)
      | (with_reducible exact LeO.refl _)
      | (with_reducible exact LeO.none _)
      | (with_reducible refine LeO.ite ?_ ?_)
      | (with_reducible refine LeO.bind ?_ (fun _ => ?_))
      | exact ih0 _ _ _ _ _ _ _ _
      | exact insolvencylaw0_Losses.mono _ _
      | exact insolvencylaw0_Notices.mono _ _
      | exact insolvencylaw34_awake.mono _
      | exact notice_Serve.mono _ _ _ _ _ _
      | exact LeO.none _
      | refine LeO.ite ?_ ?_
      | refine LeO.bind ?_ (fun _ => ?_)
theorem insolvencylaw34_NoticeAlone.mono : ∀ a0 a1 a2 a3 a4 a5 k, LeO (insolvencylaw34_NoticeAlone.f k a0 a1 a2 a3 a4 a5) (insolvencylaw34_NoticeAlone.f (k + 1) a0 a1 a2 a3 a4 a5) := by
  intro a0 a1 a2 a3 a4 a5 k
  have ih0 := insolvencylaw34_NoticeAlone.mono_l k
  unfold insolvencylaw34_NoticeAlone.f
  repeat' first
      | (with_reducible exact ih0 _ _ _ _ _ _ _ _)
      | (with_reducible exact insolvencylaw0_Losses.mono _ _)
      | (with_reducible exact insolvencylaw0_Notices.mono _ _)
      | (with_reducible exact insolvencylaw34_awake.mono _)
      | (with_reducible exact notice_Serve.mono _ _ _ _ _ _)
      | (with_reducible exact LeO.refl _)
      | (with_reducible exact LeO.none _)
      | (with_reducible refine LeO.ite ?_ ?_)
      | (with_reducible refine LeO.bind ?_ (fun _ => ?_))
      | exact ih0 _ _ _ _ _ _ _ _
      | exact insolvencylaw0_Losses.mono _ _
      | exact insolvencylaw0_Notices.mono _ _
      | exact insolvencylaw34_awake.mono _
      | exact notice_Serve.mono _ _ _ _ _ _
      | exact LeO.none _
      | refine LeO.ite ?_ ?_
      | refine LeO.bind ?_ (fun _ => ?_)
def insolvencylaw34_NoticeAlone.T12 : Bool × List (List Nat × List Nat) := (true, [([], []), ([], []), ([], []), ([1, 2], [1, 2]), ([3], [3]), ([4], [4]), ([], []), ([], []), ([6, 7], [6, 7]), ([8], [8]), ([9], [9]), ([5, 10], [5, 10]), ([11], [11]), ([0, 12], [0, 12]), ([13, 13, 0, 1, 2, 3, 4, 5, 6, 7, 8, 9, 10, 11, 12, 13], [0, 13])])
def insolvencylaw34_NoticeAlone.B12 : List Nat := [0, 0, 0, 6, 14, 30, 0, 0, 192, 448, 960, 2046, 4094, 8191, 16383]
theorem insolvencylaw34_NoticeAlone.tab12 : rtab .any (opsOf Try.f8 12) = insolvencylaw34_NoticeAlone.T12 := by kernel_rfl
theorem insolvencylaw34_NoticeAlone.bits12 : waitsOk insolvencylaw34_NoticeAlone.T12.2 insolvencylaw34_NoticeAlone.B12 = true := by kernel_rfl
def insolvencylaw34_NoticeAlone.T14 : Bool × List (List Nat × List Nat) := (true, [([], []), ([], []), ([], []), ([], []), ([3], [3]), ([1, 2, 4], [1, 2, 4]), ([], []), ([0, 5, 6], [0, 5, 6]), ([7], [7]), ([8], [8]), ([8], [8]), ([9, 7, 0, 1, 2, 3, 4, 5, 6, 7, 8, 9], [9]), ([10, 11, 0, 1, 2, 3, 4, 5, 6, 7, 8, 9, 10, 11], [10])])
def insolvencylaw34_NoticeAlone.B14 : List Nat := [0, 0, 0, 0, 8, 30, 0, 127, 255, 511, 511, 1023, 4095]
theorem insolvencylaw34_NoticeAlone.tab14 : rtab .any (opsOf Try.f8 14) = insolvencylaw34_NoticeAlone.T14 := by kernel_rfl
theorem insolvencylaw34_NoticeAlone.bits14 : waitsOk insolvencylaw34_NoticeAlone.T14.2 insolvencylaw34_NoticeAlone.B14 = true := by kernel_rfl
def insolvencylaw34_NoticeAlone.T15 : Bool × List (List Nat × List Nat) := (true, [([], []), ([0, 0], [0]), ([1], [1]), ([2, 1], [1, 2]), ([1, 3], [1, 3]), ([4, 1], [4]), ([5], [5]), ([6, 5], [5, 6]), ([5, 7], [5, 7]), ([8, 5], [8]), ([9], [9]), ([10, 9], [9, 10]), ([9], [9]), ([12, 9], [9, 12]), ([11, 13, 9], [9, 11, 13]), ([9, 14], [9, 14]), ([15, 9], [15]), ([16], [16]), ([17, 16], [16, 17]), ([18, 16], [16, 18]), ([16, 19], [16, 19]), ([20, 16], [20]), ([21], [21]), ([21], [21]), ([22, 23, 21], [21, 22, 23]), ([24, 21], [21, 24]), ([21], [21]), ([26, 21], [21, 26]), ([27, 21], [21, 27]), ([25, 28, 21], [21, 25, 28]), ([21, 29], [21, 29]), ([30, 21, 0, 1, 2, 3, 4, 5, 6, 7, 8, 9, 10, 11, 12, 13, 14, 15, 16, 17, 18, 19, 20, 21, 22, 23, 24, 25, 26, 27, 28, 29, 30], [30])])
def insolvencylaw34_NoticeAlone.B15 : List Nat := [0, 1, 3, 7, 15, 31, 63, 127, 255, 511, 1023, 2047, 1023, 5119, 16383, 32767, 65535, 131071, 262143, 524287, 1048575, 2097151, 4194303, 4194303, 16777215, 33554431, 4194303, 71303167, 205520895, 536870911, 1073741823, 2147483647]
theorem insolvencylaw34_NoticeAlone.tab15 : rtab .any (opsOf Try.f8 15) = insolvencylaw34_NoticeAlone.T15 := by kernel_rfl
theorem insolvencylaw34_NoticeAlone.bits15 : waitsOk insolvencylaw34_NoticeAlone.T15.2 insolvencylaw34_NoticeAlone.B15 = true := by kernel_rfl
set_option maxHeartbeats 8000000 in
set_option maxRecDepth 100000 in
theorem insolvencylaw34_NoticeAlone.calls (k : Nat) (a0_0 : Int) (a0_1 : Int) (a0_2 : Int) (A1 : Option Addr) (c1 : Nat) (l1 : List Int) (A2 : Option Addr) (c2 : Nat) (l2 : List (S26)) (a3 : Int) (r : Bool) (w : World) (hr1 : Kd.C (Kd.int .u16) w A1 l1.length l1) (hc1 : l1.length ≤ c1) (hr2 : Kd.C k26 w A2 l2.length l2) (hc2 : l2.length ≤ c2) (h : insolvencylaw34_NoticeAlone.f k a0_0 a0_1 a0_2 l1 l2 a3 = some r) :
    Calls Try.prog 8 #[.agg #[.int .u8 a0_0, .int .u8 a0_1, .int .u8 a0_2], .slice A1 l1.length c1, .slice A2 l2.length c2, .int .u8 a3] w fun e w' => e = .returned (.bool r) ∧ Below w.heap.size w w' := by
  have hu26 := Try.underlying26
  have hu23 := Try.underlying23
  have hu54 := Try.underlying54
  have hu50 := Try.underlying50
  have HR1 := Aside0.mk hr1
  have HC1 := Aside0.mk hc1
  clear hr1 hc1
  have HR2 := Aside0.mk hr2
  have HC2 := Aside0.mk hc2
  clear hr2 hc2
  have HB := Aside0.mk (Below.refl w.heap.size w)
  have H : ((insolvencylaw0_Post.f a0_0 a0_1 a0_2).bind fun bt306 => ((insolvencylaw0_Notices.f k l1).bind fun t310 => (if (t310.length : Int) = 0 then ((insolvencylaw34_awake.f k).bind fun t313 => (some t313)) else ((insolvencylaw0_Losses.f k l2).bind fun t314 => (insolvencylaw34_NoticeAlone.l0 k t310 (Int.tmod (wrap64 (a3)) (t310.length : Int)) t314 ([] : List (S54)) 0 bt306.1 bt306.2.1 bt306.2.2))))) = some r := h
  clear h
  replace H := Option.bind_eq_some_iff.mp H
  obtain ⟨⟨t306, t307, t308⟩, A50, H⟩ := H
  replace H : ((insolvencylaw0_Notices.f k l1).bind fun t310 => (if (t310.length : Int) = 0 then ((insolvencylaw34_awake.f k).bind fun t313 => (some t313)) else ((insolvencylaw0_Losses.f k l2).bind fun t314 => (insolvencylaw34_NoticeAlone.l0 k t310 (Int.tmod (wrap64 (a3)) (t310.length : Int)) t314 ([] : List (S54)) 0 t306 t307 t308)))) = some r := H
  have A5 := Aside0.mk A50
  clear A50
  replace H := Option.bind_eq_some_iff.mp H
  obtain ⟨t310, A60, H⟩ := H
  replace H : (if (t310.length : Int) = 0 then ((insolvencylaw34_awake.f k).bind fun t313 => (some t313)) else ((insolvencylaw0_Losses.f k l2).bind fun t314 => (insolvencylaw34_NoticeAlone.l0 k t310 (Int.tmod (wrap64 (a3)) (t310.length : Int)) t314 ([] : List (S54)) 0 t306 t307 t308))) = some r := H
  have A6 := Aside0.mk A60
  clear A60
  by_cases c7 : (t310.length : Int) = 0
  · rw [if_pos c7] at H
    have c7b0 : ((t310.length : Int) == 0) = true := beq_iff_eq.mpr c7
    have c7b1 : ((t310.length : Int) != 0) = false := bne_eq_false_iff_eq.mpr c7
    clear c7
    replace H := Option.bind_eq_some_iff.mp H
    obtain ⟨t313, A80, H⟩ := H
    replace H : (some t313) = some r := H
    have A8 := Aside0.mk A80
    clear A80
    obtain rfl := Option.some.inj H
    go_enter Try.func8, Try.ntmps8
    go_wp2_with (first | ((with_reducible refine gate_dst (N := 4) rfl ?_); (try (refine gate_guard (by rfl) ?_; dsimp only)); refine box_event ?hg (N := 4) ?hd (cs := #[.int .u8 a0_0, .int .u8 a0_1, .int .u8 a0_2]) (t := 26) ?hr ?_; (case hd => rfl); (case hg => rfl); (case hr => first | (go_simp; done) | (go_simp; rfl)); intro gb305 hg w9 hbox hb; have n0_ := Aside0.mk (below_step (by repeat (first | (with_reducible first | exact HB.out | apply below_alloc | apply pw_below_drewN | apply below_drew1) | exact HB.out)) hb); have n1_ := Aside0.mk (hbox); have n2_ := Aside0.mk ((by rw [hg]; exact (below_size (by repeat (first | (with_reducible first | exact HB.out | apply below_alloc | apply pw_below_drewN | apply below_drew1) | exact HB.out))) : w.heap.size ≤ gb305)); have n3_ := Aside0.mk ((by rw [hg]; exact (below_size (by repeat (first | (with_reducible first | exact HB.out | apply below_alloc | apply pw_below_drewN | apply below_drew1) | exact HB.out))) : w.heap.size ≤ gb305)); clear HB; have HB := n0_; have BK305 := n1_; have GW305 := n2_; have GE305 := n3_; clear n0_ n1_ n2_ n3_; clear hb hbox hg; have hcz10_0 : w9.cell? ⟨gb305, 0, none⟩ = some (.int .u8 a0_0) := (blk_cell BK305.out 0).trans rfl; have hcz10_1 : w9.cell? ⟨gb305, 1, none⟩ = some (.int .u8 a0_1) := (blk_cell BK305.out 1).trans rfl; have hcz10_2 : w9.cell? ⟨gb305, 2, none⟩ = some (.int .u8 a0_2) := (blk_cell BK305.out 2).trans rfl; have hfz10_0 := blk_frozen BK305.out 0; have hfz10_1 := blk_frozen BK305.out 1; have hfz10_2 := blk_frozen BK305.out 2) | ((with_reducible refine gate_callee (f := 10) rfl ?_); refine goesL_ (some 20) rfl rfl Try.func10 (by kernel_rfl) rfl #[.agg #[.int .u8 a0_0, .int .u8 a0_1, .int .u8 a0_2]] rfl (by (try simp only [List.map_toArray, List.map_cons, List.map_nil]); first | done | rfl | (simp only [List.length_drop, List.length_take]; rfl)) ?_; (with_reducible refine (insolvencylaw0_Post.calls a0_0 a0_1 a0_2 t306 t307 t308 _ A5.out).mono ?_); rintro e w11 ⟨rfl, hb⟩; refine ⟨_, rfl, ?_⟩; have n0_ := Aside0.mk (blk_below (g := gb305) (o := .cells #[.int .u8 a0_0, .int .u8 a0_1, .int .u8 a0_2] 26 (0, 0)) (by (with_reducible repeat (first | refine blk_drewN ?_ _ | refine blk_drew ?_ | refine blk_alloc ?_ _)); exact BK305.out) hb); have n1_ := Aside0.mk (below_step (by repeat (first | (with_reducible first | exact HB.out | apply below_alloc | apply pw_below_drewN | apply below_drew1 | refine below_set ?_ GE305.out) | exact HB.out)) hb); clear BK305; clear HB; have BK305 := n0_; have HB := n1_; clear n0_ n1_; (try clear hb); (try clear hb2); (try clear hk); (try clear hi)) | ((with_reducible refine gate_dst (N := 9) rfl ?_); (try (refine gate_guard (by rfl) ?_; dsimp only)); refine box_event ?hg (N := 9) ?hd (cs := #[.int .i64 0, .int .i64 0, .int .i64 0]) (t := 23) ?hr ?_; (case hd => rfl); (case hg => rfl); (case hr => first | (go_simp; done) | (go_simp; rfl)); intro gb309 hg w12 hbox hb; have n0_ := Aside0.mk (blk_below (g := gb305) (o := .cells #[.int .u8 a0_0, .int .u8 a0_1, .int .u8 a0_2] 26 (0, 0)) (by (with_reducible repeat (first | refine blk_drewN ?_ _ | refine blk_drew ?_ | refine blk_alloc ?_ _)); exact BK305.out) hb); have n1_ := Aside0.mk (below_step (by repeat (first | (with_reducible first | exact HB.out | apply below_alloc | apply pw_below_drewN | apply below_drew1 | refine below_set ?_ GE305.out) | exact HB.out)) hb); have n2_ := Aside0.mk (hbox); have n3_ := Aside0.mk ((by rw [hg]; exact (below_size (by repeat (first | (with_reducible first | exact HB.out | apply below_alloc | apply pw_below_drewN | apply below_drew1 | refine below_set ?_ GE305.out) | exact HB.out))) : w.heap.size ≤ gb309)); have n4_ := Aside0.mk ((by rw [hg]; exact (below_size (by repeat (first | (with_reducible first | exact HB.out | apply below_alloc | apply pw_below_drewN | apply below_drew1 | refine below_set ?_ GE305.out) | exact HB.out))) : w.heap.size ≤ gb309)); have n5_ := Aside0.mk ((by rw [hg]; exact Nat.ne_of_lt (blk_lt (g := gb305) (o := .cells #[.int .u8 a0_0, .int .u8 a0_1, .int .u8 a0_2] 26 (0, 0)) (by (with_reducible repeat (first | refine blk_drewN ?_ _ | refine blk_drew ?_ | refine blk_alloc ?_ _)); exact BK305.out)) : gb305 ≠ gb309)); have n6_ := Aside0.mk ((by rw [hg]; exact Nat.ne_of_gt (blk_lt (g := gb305) (o := .cells #[.int .u8 a0_0, .int .u8 a0_1, .int .u8 a0_2] 26 (0, 0)) (by (with_reducible repeat (first | refine blk_drewN ?_ _ | refine blk_drew ?_ | refine blk_alloc ?_ _)); exact BK305.out)) : gb309 ≠ gb305)); clear BK305; clear HB; have BK305 := n0_; have HB := n1_; have BK309 := n2_; have GW309 := n3_; have GE309 := n4_; have NB305_309 := n5_; have NB309_305 := n6_; clear n0_ n1_ n2_ n3_ n4_ n5_ n6_; clear hb hbox hg; have hnb13 := NB309_305.out; have hnc13 := NB305_309.out; have hcz14_0 : w12.cell? ⟨gb309, 0, none⟩ = some (.int .i64 0) := (blk_cell BK309.out 0).trans rfl; have hcz14_1 : w12.cell? ⟨gb309, 1, none⟩ = some (.int .i64 0) := (blk_cell BK309.out 1).trans rfl; have hcz14_2 : w12.cell? ⟨gb309, 2, none⟩ = some (.int .i64 0) := (blk_cell BK309.out 2).trans rfl; have hfz14_0 := blk_frozen BK309.out 0; have hfz14_1 := blk_frozen BK309.out 1; have hfz14_2 := blk_frozen BK309.out 2) | ((with_reducible refine gate_callee (f := 13) rfl ?_); refine goesL_ (some 22) rfl rfl Try.func13 (by kernel_rfl) rfl #[.slice A1 l1.length c1] rfl (by (try simp only [List.map_toArray, List.map_cons, List.map_nil]); first | done | rfl | (simp only [List.length_drop, List.length_take]; rfl)) ?_; (with_reducible refine (insolvencylaw0_Notices.calls k _ _ l1 t310 _ ?side1 ?side2 A6.out).mono ?_); (case side1 => exact Kd.C_below HR1.out (by repeat (first | (with_reducible first | exact HB.out | apply below_alloc | apply pw_below_drewN | apply below_drew1 | refine below_set ?_ GE305.out | refine below_set ?_ GE309.out) | exact HB.out))); (case side2 => exact HC1.out); rintro e w15 ⟨v311, rfl, ho0, hb⟩; refine ⟨_, rfl, ?_⟩; have n0_ := Aside0.mk (Kd.R_lower ho0 (below_size (by repeat (first | (with_reducible first | exact HB.out | apply below_alloc | apply pw_below_drewN | apply below_drew1 | refine below_set ?_ GE305.out | refine below_set ?_ GE309.out) | exact HB.out)))); have n1_ := Aside0.mk (blk_below (g := gb305) (o := .cells #[.int .u8 a0_0, .int .u8 a0_1, .int .u8 a0_2] 26 (0, 0)) (by (with_reducible repeat (first | refine blk_drewN ?_ _ | refine blk_drew ?_ | refine blk_alloc ?_ _)); refine blk_far ?_ NB305_309.out _; (with_reducible repeat (first | refine blk_drewN ?_ _ | refine blk_drew ?_ | refine blk_alloc ?_ _)); refine blk_far ?_ NB305_309.out _; (with_reducible repeat (first | refine blk_drewN ?_ _ | refine blk_drew ?_ | refine blk_alloc ?_ _)); refine blk_far ?_ NB305_309.out _; (with_reducible repeat (first | refine blk_drewN ?_ _ | refine blk_drew ?_ | refine blk_alloc ?_ _)); exact BK305.out) hb); have n2_ := Aside0.mk (blk_below (g := gb309) (o := .cells #[.int .i64 t306, .int .i64 t307, .int .i64 t308] 23 (0, 0)) (by (with_reducible repeat (first | refine blk_drewN ?_ _ | refine blk_drew ?_ | refine blk_alloc ?_ _)); refine blk_put (cs := #[.int .i64 t306, .int .i64 t307, .int .i64 0]) ?_ 2 _ rfl; (with_reducible repeat (first | refine blk_drewN ?_ _ | refine blk_drew ?_ | refine blk_alloc ?_ _)); refine blk_put (cs := #[.int .i64 t306, .int .i64 0, .int .i64 0]) ?_ 1 _ rfl; (with_reducible repeat (first | refine blk_drewN ?_ _ | refine blk_drew ?_ | refine blk_alloc ?_ _)); refine blk_put (cs := #[.int .i64 0, .int .i64 0, .int .i64 0]) ?_ 0 _ rfl; (with_reducible repeat (first | refine blk_drewN ?_ _ | refine blk_drew ?_ | refine blk_alloc ?_ _)); exact BK309.out) hb); have n3_ := Aside0.mk (below_step (by repeat (first | (with_reducible first | exact HB.out | apply below_alloc | apply pw_below_drewN | apply below_drew1 | refine below_set ?_ GE305.out | refine below_set ?_ GE309.out) | exact HB.out)) hb); clear BK305; clear BK309; clear HB; have HO312 := n0_; have BK305 := n1_; have BK309 := n2_; have HB := n3_; clear n0_ n1_ n2_ n3_; (try clear hb); (try clear hb2); (try clear hk); (try clear hi); (try clear ho0); obtain ⟨Ao16, co16, eo16⟩ := Kd.R_slice HO312.out; subst eo16) | ((with_reducible refine gate_callee (f := 9) rfl ?_); refine goesL_ (some 26) rfl rfl Try.func9 (by kernel_rfl) rfl #[] rfl (by (try simp only [List.map_toArray, List.map_cons, List.map_nil]); first | done | rfl | (simp only [List.length_drop, List.length_take]; rfl)) ?_; (with_reducible refine (insolvencylaw34_awake.calls k  t313 _ A8.out).mono ?_); rintro e w17 ⟨rfl, hb⟩; refine ⟨_, rfl, ?_⟩; have n0_ := Aside0.mk (Kd.R_below (by (with_reducible repeat (first | apply Kd.R_alloc | apply Kd.R_drewN | apply Kd.R_drew)); exact HO312.out) hb); have n1_ := Aside0.mk (blk_below (g := gb305) (o := .cells #[.int .u8 a0_0, .int .u8 a0_1, .int .u8 a0_2] 26 (0, 0)) (by (with_reducible repeat (first | refine blk_drewN ?_ _ | refine blk_drew ?_ | refine blk_alloc ?_ _)); exact BK305.out) hb); have n2_ := Aside0.mk (blk_below (g := gb309) (o := .cells #[.int .i64 t306, .int .i64 t307, .int .i64 t308] 23 (0, 0)) (by (with_reducible repeat (first | refine blk_drewN ?_ _ | refine blk_drew ?_ | refine blk_alloc ?_ _)); exact BK309.out) hb); have n3_ := Aside0.mk (below_step (by repeat (first | (with_reducible first | exact HB.out | apply below_alloc | apply pw_below_drewN | apply below_drew1 | refine below_set ?_ GE305.out | refine below_set ?_ GE309.out) | exact HB.out)) hb); clear HO312; clear BK305; clear BK309; clear HB; have HO312 := n0_; have BK305 := n1_; have BK309 := n2_; have HB := n3_; clear n0_ n1_ n2_ n3_; (try clear hb); (try clear hb2); (try clear hk); (try clear hi)))
    go_ret
    exact ⟨by first | rfl | (simp [errW_none, errW_some] <;> rfl) | (simp [*, errW_none, errW_some] <;> rfl), by repeat (first | (with_reducible first | exact HB.out | apply below_alloc | apply pw_below_drewN | apply below_drew1 | refine below_set ?_ GE305.out | refine below_set ?_ GE309.out) | exact HB.out)⟩
  · rw [if_neg c7] at H
    have c7b0 : ((t310.length : Int) == 0) = false := beq_eq_false_iff_ne.mpr c7
    have c7b1 : ((t310.length : Int) != 0) = true := bne_iff_ne.mpr c7
    have c7b2 : ¬ (t310 = []) := fun h_ => c7 (by rw [h_]; rfl)
    replace H := Option.bind_eq_some_iff.mp H
    obtain ⟨t314, A180, H⟩ := H
    replace H : (insolvencylaw34_NoticeAlone.l0 k t310 (Int.tmod (wrap64 (a3)) (t310.length : Int)) t314 ([] : List (S54)) 0 t306 t307 t308) = some r := H
    have A18 := Aside0.mk A180
    clear A180
    have H' := Aside0.mk H
    clear H
    go_enter Try.func8, Try.ntmps8
    go_wp2_with (first | ((with_reducible refine gate_dst (N := 4) rfl ?_); (try (refine gate_guard (by rfl) ?_; dsimp only)); refine box_event ?hg (N := 4) ?hd (cs := #[.int .u8 a0_0, .int .u8 a0_1, .int .u8 a0_2]) (t := 26) ?hr ?_; (case hd => rfl); (case hg => rfl); (case hr => first | (go_simp; done) | (go_simp; rfl)); intro gb305 hg w19 hbox hb; have n0_ := Aside0.mk (below_step (by repeat (first | (with_reducible first | exact HB.out | apply below_alloc | apply pw_below_drewN | apply below_drew1) | exact HB.out)) hb); have n1_ := Aside0.mk (hbox); have n2_ := Aside0.mk ((by rw [hg]; exact (below_size (by repeat (first | (with_reducible first | exact HB.out | apply below_alloc | apply pw_below_drewN | apply below_drew1) | exact HB.out))) : w.heap.size ≤ gb305)); have n3_ := Aside0.mk ((by rw [hg]; exact (below_size (by repeat (first | (with_reducible first | exact HB.out | apply below_alloc | apply pw_below_drewN | apply below_drew1) | exact HB.out))) : w.heap.size ≤ gb305)); clear HB; have HB := n0_; have BK305 := n1_; have GW305 := n2_; have GE305 := n3_; clear n0_ n1_ n2_ n3_; clear hb hbox hg; have hcz20_0 : w19.cell? ⟨gb305, 0, none⟩ = some (.int .u8 a0_0) := (blk_cell BK305.out 0).trans rfl; have hcz20_1 : w19.cell? ⟨gb305, 1, none⟩ = some (.int .u8 a0_1) := (blk_cell BK305.out 1).trans rfl; have hcz20_2 : w19.cell? ⟨gb305, 2, none⟩ = some (.int .u8 a0_2) := (blk_cell BK305.out 2).trans rfl; have hfz20_0 := blk_frozen BK305.out 0; have hfz20_1 := blk_frozen BK305.out 1; have hfz20_2 := blk_frozen BK305.out 2) | ((with_reducible refine gate_callee (f := 10) rfl ?_); refine goesL_ (some 20) rfl rfl Try.func10 (by kernel_rfl) rfl #[.agg #[.int .u8 a0_0, .int .u8 a0_1, .int .u8 a0_2]] rfl (by (try simp only [List.map_toArray, List.map_cons, List.map_nil]); first | done | rfl | (simp only [List.length_drop, List.length_take]; rfl)) ?_; (with_reducible refine (insolvencylaw0_Post.calls a0_0 a0_1 a0_2 t306 t307 t308 _ A5.out).mono ?_); rintro e w21 ⟨rfl, hb⟩; refine ⟨_, rfl, ?_⟩; have n0_ := Aside0.mk (blk_below (g := gb305) (o := .cells #[.int .u8 a0_0, .int .u8 a0_1, .int .u8 a0_2] 26 (0, 0)) (by (with_reducible repeat (first | refine blk_drewN ?_ _ | refine blk_drew ?_ | refine blk_alloc ?_ _)); exact BK305.out) hb); have n1_ := Aside0.mk (below_step (by repeat (first | (with_reducible first | exact HB.out | apply below_alloc | apply pw_below_drewN | apply below_drew1 | refine below_set ?_ GE305.out) | exact HB.out)) hb); clear BK305; clear HB; have BK305 := n0_; have HB := n1_; clear n0_ n1_; (try clear hb); (try clear hb2); (try clear hk); (try clear hi)) | ((with_reducible refine gate_dst (N := 9) rfl ?_); (try (refine gate_guard (by rfl) ?_; dsimp only)); refine box_event ?hg (N := 9) ?hd (cs := #[.int .i64 0, .int .i64 0, .int .i64 0]) (t := 23) ?hr ?_; (case hd => rfl); (case hg => rfl); (case hr => first | (go_simp; done) | (go_simp; rfl)); intro gb309 hg w22 hbox hb; have n0_ := Aside0.mk (blk_below (g := gb305) (o := .cells #[.int .u8 a0_0, .int .u8 a0_1, .int .u8 a0_2] 26 (0, 0)) (by (with_reducible repeat (first | refine blk_drewN ?_ _ | refine blk_drew ?_ | refine blk_alloc ?_ _)); exact BK305.out) hb); have n1_ := Aside0.mk (below_step (by repeat (first | (with_reducible first | exact HB.out | apply below_alloc | apply pw_below_drewN | apply below_drew1 | refine below_set ?_ GE305.out) | exact HB.out)) hb); have n2_ := Aside0.mk (hbox); have n3_ := Aside0.mk ((by rw [hg]; exact (below_size (by repeat (first | (with_reducible first | exact HB.out | apply below_alloc | apply pw_below_drewN | apply below_drew1 | refine below_set ?_ GE305.out) | exact HB.out))) : w.heap.size ≤ gb309)); have n4_ := Aside0.mk ((by rw [hg]; exact (below_size (by repeat (first | (with_reducible first | exact HB.out | apply below_alloc | apply pw_below_drewN | apply below_drew1 | refine below_set ?_ GE305.out) | exact HB.out))) : w.heap.size ≤ gb309)); have n5_ := Aside0.mk ((by rw [hg]; exact Nat.ne_of_lt (blk_lt (g := gb305) (o := .cells #[.int .u8 a0_0, .int .u8 a0_1, .int .u8 a0_2] 26 (0, 0)) (by (with_reducible repeat (first | refine blk_drewN ?_ _ | refine blk_drew ?_ | refine blk_alloc ?_ _)); exact BK305.out)) : gb305 ≠ gb309)); have n6_ := Aside0.mk ((by rw [hg]; exact Nat.ne_of_gt (blk_lt (g := gb305) (o := .cells #[.int .u8 a0_0, .int .u8 a0_1, .int .u8 a0_2] 26 (0, 0)) (by (with_reducible repeat (first | refine blk_drewN ?_ _ | refine blk_drew ?_ | refine blk_alloc ?_ _)); exact BK305.out)) : gb309 ≠ gb305)); clear BK305; clear HB; have BK305 := n0_; have HB := n1_; have BK309 := n2_; have GW309 := n3_; have GE309 := n4_; have NB305_309 := n5_; have NB309_305 := n6_; clear n0_ n1_ n2_ n3_ n4_ n5_ n6_; clear hb hbox hg; have hnb23 := NB309_305.out; have hnc23 := NB305_309.out; have hcz24_0 : w22.cell? ⟨gb309, 0, none⟩ = some (.int .i64 0) := (blk_cell BK309.out 0).trans rfl; have hcz24_1 : w22.cell? ⟨gb309, 1, none⟩ = some (.int .i64 0) := (blk_cell BK309.out 1).trans rfl; have hcz24_2 : w22.cell? ⟨gb309, 2, none⟩ = some (.int .i64 0) := (blk_cell BK309.out 2).trans rfl; have hfz24_0 := blk_frozen BK309.out 0; have hfz24_1 := blk_frozen BK309.out 1; have hfz24_2 := blk_frozen BK309.out 2) | ((with_reducible refine gate_callee (f := 13) rfl ?_); refine goesL_ (some 22) rfl rfl Try.func13 (by kernel_rfl) rfl #[.slice A1 l1.length c1] rfl (by (try simp only [List.map_toArray, List.map_cons, List.map_nil]); first | done | rfl | (simp only [List.length_drop, List.length_take]; rfl)) ?_; (with_reducible refine (insolvencylaw0_Notices.calls k _ _ l1 t310 _ ?side1 ?side2 A6.out).mono ?_); (case side1 => exact Kd.C_below HR1.out (by repeat (first | (with_reducible first | exact HB.out | apply below_alloc | apply pw_below_drewN | apply below_drew1 | refine below_set ?_ GE305.out | refine below_set ?_ GE309.out) | exact HB.out))); (case side2 => exact HC1.out); rintro e w25 ⟨v311, rfl, ho0, hb⟩; refine ⟨_, rfl, ?_⟩; have n0_ := Aside0.mk (Kd.R_lower ho0 (below_size (by repeat (first | (with_reducible first | exact HB.out | apply below_alloc | apply pw_below_drewN | apply below_drew1 | refine below_set ?_ GE305.out | refine below_set ?_ GE309.out) | exact HB.out)))); have n1_ := Aside0.mk (blk_below (g := gb305) (o := .cells #[.int .u8 a0_0, .int .u8 a0_1, .int .u8 a0_2] 26 (0, 0)) (by (with_reducible repeat (first | refine blk_drewN ?_ _ | refine blk_drew ?_ | refine blk_alloc ?_ _)); refine blk_far ?_ NB305_309.out _; (with_reducible repeat (first | refine blk_drewN ?_ _ | refine blk_drew ?_ | refine blk_alloc ?_ _)); refine blk_far ?_ NB305_309.out _; (with_reducible repeat (first | refine blk_drewN ?_ _ | refine blk_drew ?_ | refine blk_alloc ?_ _)); refine blk_far ?_ NB305_309.out _; (with_reducible repeat (first | refine blk_drewN ?_ _ | refine blk_drew ?_ | refine blk_alloc ?_ _)); exact BK305.out) hb); have n2_ := Aside0.mk (blk_below (g := gb309) (o := .cells #[.int .i64 t306, .int .i64 t307, .int .i64 t308] 23 (0, 0)) (by (with_reducible repeat (first | refine blk_drewN ?_ _ | refine blk_drew ?_ | refine blk_alloc ?_ _)); refine blk_put (cs := #[.int .i64 t306, .int .i64 t307, .int .i64 0]) ?_ 2 _ rfl; (with_reducible repeat (first | refine blk_drewN ?_ _ | refine blk_drew ?_ | refine blk_alloc ?_ _)); refine blk_put (cs := #[.int .i64 t306, .int .i64 0, .int .i64 0]) ?_ 1 _ rfl; (with_reducible repeat (first | refine blk_drewN ?_ _ | refine blk_drew ?_ | refine blk_alloc ?_ _)); refine blk_put (cs := #[.int .i64 0, .int .i64 0, .int .i64 0]) ?_ 0 _ rfl; (with_reducible repeat (first | refine blk_drewN ?_ _ | refine blk_drew ?_ | refine blk_alloc ?_ _)); exact BK309.out) hb); have n3_ := Aside0.mk (below_step (by repeat (first | (with_reducible first | exact HB.out | apply below_alloc | apply pw_below_drewN | apply below_drew1 | refine below_set ?_ GE305.out | refine below_set ?_ GE309.out) | exact HB.out)) hb); clear BK305; clear BK309; clear HB; have HO312 := n0_; have BK305 := n1_; have BK309 := n2_; have HB := n3_; clear n0_ n1_ n2_ n3_; (try clear hb); (try clear hb2); (try clear hk); (try clear hi); (try clear ho0); obtain ⟨Ao26, co26, eo26⟩ := Kd.R_slice HO312.out; subst eo26) | ((with_reducible refine gate_callee (f := 14) rfl ?_); refine goesL_ (some 33) rfl rfl Try.func14 (by kernel_rfl) rfl #[.slice A2 l2.length c2] rfl (by (try simp only [List.map_toArray, List.map_cons, List.map_nil]); first | done | rfl | (simp only [List.length_drop, List.length_take]; rfl)) ?_; (with_reducible refine (insolvencylaw0_Losses.calls k _ _ l2 t314 _ ?side1 ?side2 A18.out).mono ?_); (case side1 => repeat (first | exact (Kd.C_below HR2.out HB.out) | (with_reducible refine Kd.C_alloc ?_ _) | (with_reducible refine Kd.C_drewN ?_ _) | (with_reducible refine Kd.C_drew ?_))); (case side2 => exact HC2.out); rintro e w27 ⟨v315, rfl, ho0, hb⟩; refine ⟨_, rfl, ?_⟩; have n0_ := Aside0.mk (Kd.R_below (by (with_reducible repeat (first | apply Kd.R_alloc | apply Kd.R_drewN | apply Kd.R_drew)); exact HO312.out) hb); have n1_ := Aside0.mk (Kd.R_lower ho0 (below_size (by repeat (first | (with_reducible first | exact HB.out | apply below_alloc | apply pw_below_drewN | apply below_drew1 | refine below_set ?_ GE305.out | refine below_set ?_ GE309.out) | exact HB.out)))); have n2_ := Aside0.mk (blk_below (g := gb305) (o := .cells #[.int .u8 a0_0, .int .u8 a0_1, .int .u8 a0_2] 26 (0, 0)) (by (with_reducible repeat (first | refine blk_drewN ?_ _ | refine blk_drew ?_ | refine blk_alloc ?_ _)); exact BK305.out) hb); have n3_ := Aside0.mk (blk_below (g := gb309) (o := .cells #[.int .i64 t306, .int .i64 t307, .int .i64 t308] 23 (0, 0)) (by (with_reducible repeat (first | refine blk_drewN ?_ _ | refine blk_drew ?_ | refine blk_alloc ?_ _)); exact BK309.out) hb); have n4_ := Aside0.mk (below_step (by repeat (first | (with_reducible first | exact HB.out | apply below_alloc | apply pw_below_drewN | apply below_drew1 | refine below_set ?_ GE305.out | refine below_set ?_ GE309.out) | exact HB.out)) hb); clear HO312; clear BK305; clear BK309; clear HB; have HO312 := n0_; have HO316 := n1_; have BK305 := n2_; have BK309 := n3_; have HB := n4_; clear n0_ n1_ n2_ n3_ n4_; (try clear hb); (try clear hb2); (try clear hk); (try clear hi); (try clear ho0)))
    go_loopg [13, 14] k (fun kq v13 v14 w' => ∃ (x13_1 : List (S54)) (x14_1 : Int), v14 = .int .i64 x14_1 ∧ Aside0 (insolvencylaw34_NoticeAlone.l0 kq t310 (Int.tmod (wrap64 (a3)) (t310.length : Int)) t314 x13_1 x14_1 t306 t307 t308 = some r) ∧ Aside0 (kq ≤ k) ∧ Aside0 (Kd.R k46 46 w' w.heap.size (fun _ => True) (.slice Ao26 t310.length co26) t310) ∧ Aside0 (Kd.R k54 54 w' w.heap.size (fun k_ => some k_ ≠ (v13 : Value).ownBlock) v315 t314) ∧ Aside0 (Kd.R k54 54 w' w.heap.size (fun k_ => some k_ ≠ (v315 : Value).ownBlock) v13 x13_1) ∧ Aside0 (w'.heap[gb305]? = some (.cells #[.int .u8 a0_0, .int .u8 a0_1, .int .u8 a0_2] 26 (0, 0))) ∧ Aside0 (w'.heap[gb309]? = some (.cells #[.int .i64 t306, .int .i64 t307, .int .i64 t308] 23 (0, 0))) ∧ Aside0 (Below w.heap.size w w'))
    case atStart => exact ⟨(([] : List (S54))), (0), (by first | rfl | (simp; done) | (simp [*]; done)), H', ⟨Nat.le_refl _⟩, ⟨by (with_reducible repeat (first | apply Kd.R_alloc | apply Kd.R_drewN | apply Kd.R_drew)); exact HO312.out⟩, ⟨by (with_reducible repeat (first | apply Kd.R_alloc | apply Kd.R_drewN | apply Kd.R_drew)); exact Kd.R_mono HO316.out (fun _ hk => (by simp [Value.ownBlock]))⟩, ⟨by first | exact Kd.R_nil _ _ _ _ _ | exact Kd.N_nil _ _ _ _ _ | exact Kd.V_nil _ _ _ _ _ | exact Kd.Q_nil _ _ _ _ _ | exact Kd.S_nil _ _ _ _ _⟩, ⟨by (with_reducible repeat (first | refine blk_drewN ?_ _ | refine blk_drew ?_ | refine blk_alloc ?_ _)); exact BK305.out⟩, ⟨by (with_reducible repeat (first | refine blk_drewN ?_ _ | refine blk_drew ?_ | refine blk_alloc ?_ _)); exact BK309.out⟩, ⟨by repeat (first | (with_reducible first | exact HB.out | apply below_alloc | apply pw_below_drewN | apply below_drew1 | refine below_set ?_ GE305.out | refine below_set ?_ GE309.out) | exact HB.out)⟩⟩
    case round =>
      clear H'
      try clear c1
      try clear c2
      try clear p2
      try clear p6
      try clear c7
      try clear c7b0
      try clear c7b1
      try clear c7b2
      try clear c8
      try clear c9
      try clear c10
      try clear c13
      try clear c14
      try clear c23
      try clear hcz10_0
      try clear hcz10_1
      try clear hcz10_2
      try clear hcz14_0
      try clear hcz14_1
      try clear hcz14_2
      try clear hcz20_0
      try clear hcz20_1
      try clear hcz20_2
      try clear hcz24_0
      try clear hcz24_1
      try clear hcz24_2
      try clear hfz10_0
      try clear hfz10_1
      try clear hfz10_2
      try clear hfz14_0
      try clear hfz14_1
      try clear hfz14_2
      try clear hfz20_0
      try clear hfz20_1
      try clear hfz20_2
      try clear hfz24_0
      try clear hfz24_1
      try clear hfz24_2
      obtain ⟨x13_1, x14_1, rfl, HA, HK1, HO_10, HO_12, HO_13, BK305, BK309, HB⟩ := hrel
      cases gk with
      | zero => exact absurd HA.out (by simp [insolvencylaw34_NoticeAlone.l0])
      | succ k1 =>
        have H := HA.out
        clear HA
        simp only [insolvencylaw34_NoticeAlone.l0] at H
        by_cases c28 : x14_1 < (t314.length : Int)
        · rw [if_pos c28] at H
          have c28b0 : decide (x14_1 < (t314.length : Int)) = true := decide_eq_true c28
          clear c28
          by_cases c29 : 0 ≤ x14_1
          · rw [if_pos c29] at H
            have c29b0 : decide (0 ≤ x14_1) = true := decide_eq_true c29
            clear c29
            by_cases c30 : ((rd_T54 t314 x14_1).f0) = (Int.tmod (wrap64 (a3)) (t310.length : Int))
            · rw [if_pos c30] at H
              have c30b0 : (((rd_T54 t314 x14_1).f0) == (Int.tmod (wrap64 (a3)) (t310.length : Int))) = true := beq_iff_eq.mpr c30
              have c30b1 : (((rd_T54 t314 x14_1).f0) != (Int.tmod (wrap64 (a3)) (t310.length : Int))) = false := bne_eq_false_iff_eq.mpr c30
              clear c30
              by_cases c31 : x13_1.length < 5864062014805
              · rw [if_pos c31] at H
                have LMc31 := Aside0.mk c31
                clear c31
                obtain ⟨y320, hy320⟩ : ∃ y_ : List (S54), y_ = (x13_1 ++ [(⟨0, (rd_T54 t314 x14_1).f1, (rd_T54 t314 x14_1).f2⟩ : S54)]) := ⟨_, rfl⟩
                replace H : (insolvencylaw34_NoticeAlone.l0 k1 t310 (Int.tmod (wrap64 (a3)) (t310.length : Int)) t314 y320 (wrap64 (x14_1 + 1)) t306 t307 t308) = some r := by first | (rw [hy320]; with_reducible exact H) | (have H2_ := (Option.bind_some _ _).symm.trans H; rw [hy320]; with_reducible exact H2_) | (have H2_ := (Option.bind_some _ _).symm.trans H; with_reducible exact H2_) | with_reducible exact H | (rw [hy320]; exact H) | exact H
                have Ny320 := Aside0.mk hy320
                clear hy320
                have H' := Aside0.mk H
                clear H
                obtain ⟨Ao32, co32, eo32⟩ := Kd.R_slice HO_12.out
                subst eo32
                have p317 : 0 ≤ (x14_1 : Int) := of_decide_eq_true (by first | (with_reducible assumption) | assumption)
                have q317 : x14_1 < (t314.length : Int) := of_decide_eq_true (by first | (with_reducible assumption) | assumption)
                obtain ⟨Aq35, cq35, eq35⟩ := Kd.R_slice HO_12.out
                (first | subst eq35 | clear eq35)
                obtain ⟨ad317, e317, hx317_0, hx317_1, hx317_2⟩ := at_T54 (Kd.R_reads' HO_12.out).2.2 x14_1 p317 q317
                cases e317
                replace p317 := eq_true p317
                replace q317 := eq_true q317
                try go_wp2
                have n0_ := Aside0.mk (Kd.R_drew HO_10.out)
                have n1_ := Aside0.mk (Kd.R_drew HO_12.out)
                have n2_ := Aside0.mk (Kd.R_drew HO_13.out)
                have n3_ := Aside0.mk (blk_drew BK305.out)
                have n4_ := Aside0.mk (blk_drew BK309.out)
                have n5_ := Aside0.mk (below_drew1 HB.out)
                clear HO_10
                clear HO_12
                clear HO_13
                clear BK305
                clear BK309
                clear HB
                have HO_10 := n0_
                have HO_12 := n1_
                have HO_13 := n2_
                have BK305 := n3_
                have BK309 := n4_
                have HB := n5_
                clear n0_ n1_ n2_ n3_ n4_ n5_
                have p318 : 0 ≤ (x14_1 : Int) := of_decide_eq_true (by first | (with_reducible assumption) | assumption)
                have q318 : x14_1 < (t314.length : Int) := of_decide_eq_true (by first | (with_reducible assumption) | assumption)
                obtain ⟨Aq36, cq36, eq36⟩ := Kd.R_slice HO_12.out
                (first | subst eq36 | clear eq36)
                obtain ⟨ad318, e318, hx318_0, hx318_1, hx318_2⟩ := at_T54 (Kd.R_reads' HO_12.out).2.2 x14_1 p318 q318
                obtain rfl : ad317 = ad318 := (by injection e318)
                replace p318 := eq_true p318
                replace q318 := eq_true q318
                have p319 : 0 ≤ (x14_1 : Int) := of_decide_eq_true (by first | (with_reducible assumption) | assumption)
                have q319 : x14_1 < (t314.length : Int) := of_decide_eq_true (by first | (with_reducible assumption) | assumption)
                obtain ⟨Aq37, cq37, eq37⟩ := Kd.R_slice HO_12.out
                (first | subst eq37 | clear eq37)
                obtain ⟨ad319, e319, hx319_0, hx319_1, hx319_2⟩ := at_T54 (Kd.R_reads' HO_12.out).2.2 x14_1 p319 q319
                obtain rfl : ad317 = ad319 := (by injection e319)
                replace p319 := eq_true p319
                replace q319 := eq_true q319
                refine start_ (n := 15) (S := fun w' => w'.cell? (ad317.add ((x14_1).toNat * 3)) = some (.int .i64 ((rd_T54 t314 x14_1).f0)) ∧ w'.cell? ⟨(ad317.add ((x14_1).toNat * 3)).block, (ad317.add ((x14_1).toNat * 3)).off + 1, none⟩ = some (.int .i64 ((rd_T54 t314 x14_1).f1)) ∧ w'.cell? ⟨(ad317.add ((x14_1).toNat * 3)).block, (ad317.add ((x14_1).toNat * 3)).off + 2, none⟩ = some (.bool ((rd_T54 t314 x14_1).f2)) ∧ w'.cell? (ad317.add ((x14_1).toNat * 3)) = some (.int .i64 ((rd_T54 t314 x14_1).f0)) ∧ w'.cell? ⟨(ad317.add ((x14_1).toNat * 3)).block, (ad317.add ((x14_1).toNat * 3)).off + 1, none⟩ = some (.int .i64 ((rd_T54 t314 x14_1).f1)) ∧ w'.cell? ⟨(ad317.add ((x14_1).toNat * 3)).block, (ad317.add ((x14_1).toNat * 3)).off + 2, none⟩ = some (.bool ((rd_T54 t314 x14_1).f2))) (ds := [12, 13]) #[false, false, false, false, false, false, false, false, false, false, false, false, false, false, false] (by kernel_rfl) rfl rfl ⟨hx318_0, hx318_1, hx318_2, hx319_0, hx319_1, hx319_2⟩ (fun hHeld => ?_); refine with_tabW insolvencylaw34_NoticeAlone.tab12 insolvencylaw34_NoticeAlone.bits12 (fun HT_ HW_ => ?_)
                generalize wr.drew = w33 at HO_10 HO_12 HO_13 BK305 BK309 HB hx318_0 hx318_1 hx318_2 hx319_0 hx319_1 hx319_2 hHeld ⊢
                refine pure_ (i := 0) (N := some 47) (v := ?_) (a' := ?_) #[true, false, false, false, false, false, false, false, false, false, false, false, false, false, false] rfl rfl (any_of HT_.out (by kernel_rfl)) (fun _ _ _ h => h) (Or.inl ⟨by rfl, ?_⟩) ?_ ?_
                rotate_left
                · intro w'
                  go_simp
                  with_reducible rfl
                rotate_left
                · simp only [Act.put, List.setIfInBounds_toArray, List.set_cons_zero, List.set_cons_succ, i64_w, i32_w]
                  rfl
                refine pure_ (i := 1) (N := some 48) (v := ?_) (a' := ?_) #[true, true, false, false, false, false, false, false, false, false, false, false, false, false, false] rfl rfl (any_of HT_.out (by kernel_rfl)) (fun _ _ _ h => h) (Or.inl ⟨by rfl, ?_⟩) ?_ ?_
                rotate_left
                · intro w'
                  go_simp
                  with_reducible rfl
                rotate_left
                · simp only [Act.put, List.setIfInBounds_toArray, List.set_cons_zero, List.set_cons_succ, i64_w, i32_w]
                  rfl
                refine pure_ (i := 2) (N := some 49) (v := ?_) (a' := ?_) #[true, true, true, false, false, false, false, false, false, false, false, false, false, false, false] rfl rfl (any_of HT_.out (by kernel_rfl)) (fun _ _ _ h => h) (Or.inl ⟨by rfl, ?_⟩) ?_ ?_
                rotate_left
                · intro w'
                  go_simp
                  with_reducible rfl
                rotate_left
                · simp only [Act.put, List.setIfInBounds_toArray, List.set_cons_zero, List.set_cons_succ, i64_w, i32_w]
                  rfl
                refine pure_ (i := 3) (N := some 50) (v := ?_) (a' := ?_) #[true, true, true, true, false, false, false, false, false, false, false, false, false, false, false] rfl rfl (any_of HT_.out (by kernel_rfl)) (fun _ _ _ h => h) (Or.inl ⟨by rfl, ?_⟩) ?_ ?_
                rotate_left
                · intro w'
                  go_simp
                  with_reducible rfl
                rotate_left
                · simp only [Act.put, List.setIfInBounds_toArray, List.set_cons_zero, List.set_cons_succ, i64_w, i32_w]
                  rfl
                refine pure_ (i := 4) (N := some 51) (v := ?_) (a' := ?_) #[true, true, true, true, true, false, false, false, false, false, false, false, false, false, false] rfl rfl (any_of HT_.out (by kernel_rfl)) (fun _ _ _ h => h) (Or.inl ⟨by rfl, ?_⟩) ?_ ?_
                rotate_left
                · intro w'
                  go_simp
                  with_reducible rfl
                rotate_left
                · simp only [Act.put, List.setIfInBounds_toArray, List.set_cons_zero, List.set_cons_succ, i64_w, i32_w]
                  rfl
                refine pure_ (i := 6) (N := some 53) (v := ?_) (a' := ?_) #[true, true, true, true, true, false, true, false, false, false, false, false, false, false, false] rfl rfl (any_of HT_.out (by kernel_rfl)) (fun _ _ _ h => h) (Or.inl ⟨by rfl, ?_⟩) ?_ ?_
                rotate_left
                · intro w'
                  go_simp
                  with_reducible rfl
                rotate_left
                · simp only [Act.put, List.setIfInBounds_toArray, List.set_cons_zero, List.set_cons_succ, i64_w, i32_w]
                  rfl
                refine pure_ (i := 7) (N := some 54) (v := ?_) (a' := ?_) #[true, true, true, true, true, false, true, true, false, false, false, false, false, false, false] rfl rfl (any_of HT_.out (by kernel_rfl)) (fun _ _ _ h => h) (Or.inl ⟨by rfl, ?_⟩) ?_ ?_
                rotate_left
                · intro w'
                  go_simp
                  with_reducible rfl
                rotate_left
                · simp only [Act.put, List.setIfInBounds_toArray, List.set_cons_zero, List.set_cons_succ, i64_w, i32_w]
                  rfl
                refine pure_ (i := 8) (N := some 55) (v := ?_) (a' := ?_) #[true, true, true, true, true, false, true, true, true, false, false, false, false, false, false] rfl rfl (any_of HT_.out (by kernel_rfl)) (fun _ _ _ h => h) (Or.inl ⟨by rfl, ?_⟩) ?_ ?_
                rotate_left
                · intro w'
                  go_simp
                  with_reducible rfl
                rotate_left
                · simp only [Act.put, List.setIfInBounds_toArray, List.set_cons_zero, List.set_cons_succ, i64_w, i32_w]
                  rfl
                refine pure_ (i := 9) (N := some 56) (v := ?_) (a' := ?_) #[true, true, true, true, true, false, true, true, true, true, false, false, false, false, false] rfl rfl (any_of HT_.out (by kernel_rfl)) (fun _ _ _ h => h) (Or.inl ⟨by rfl, ?_⟩) ?_ ?_
                rotate_left
                · intro w'
                  go_simp
                  with_reducible rfl
                rotate_left
                · simp only [Act.put, List.setIfInBounds_toArray, List.set_cons_zero, List.set_cons_succ, i64_w, i32_w]
                  rfl
                refine take_ (i := 5) (N := some 52) (v := ?_) (a' := ?_) #[true, true, true, true, true, true, true, true, true, true, false, false, false, false, false] rfl rfl (take_ofW HT_.out HW_.out (by kernel_rfl)) (fun _ _ _ h => h) (Or.inl ⟨by rfl, ?_⟩) hHeld ?_ ?_
                rotate_left
                · rintro w' ⟨s0, s1, s2, s3, s4, s5⟩
                  go_simp
                  with_reducible rfl
                rotate_left
                · simp only [Act.put, List.setIfInBounds_toArray, List.set_cons_zero, List.set_cons_succ, i64_w, i32_w]
                  rfl
                refine take_ (i := 10) (N := some 57) (v := ?_) (a' := ?_) #[true, true, true, true, true, true, true, true, true, true, true, false, false, false, false] rfl rfl (take_ofW HT_.out HW_.out (by kernel_rfl)) (fun _ _ _ h => h) (Or.inl ⟨by rfl, ?_⟩) hHeld ?_ ?_
                rotate_left
                · rintro w' ⟨s0, s1, s2, s3, s4, s5⟩
                  go_simp
                  with_reducible rfl
                rotate_left
                · simp only [Act.put, List.setIfInBounds_toArray, List.set_cons_zero, List.set_cons_succ, i64_w, i32_w]
                  rfl
                refine pure_ (i := 11) (N := some 58) (v := ?_) (a' := ?_) #[true, true, true, true, true, true, true, true, true, true, true, true, false, false, false] rfl rfl (any_of HT_.out (by kernel_rfl)) (fun _ _ _ h => h) (Or.inl ⟨by rfl, ?_⟩) ?_ ?_
                rotate_left
                · intro w'
                  go_simp
                  with_reducible rfl
                rotate_left
                · simp only [Act.put, List.setIfInBounds_toArray, List.set_cons_zero, List.set_cons_succ, i64_w, i32_w]
                  rfl
                refine last_ (i := 12) (N := some 59) #[true, true, true, true, true, true, true, true, true, true, true, true, true, false, false] rfl rfl (one_of HT_.out (by kernel_rfl)) (by decide) (fun K hK => ?_)
                refine value_ (w1 := ?_) (v := ?_) (by rfl) rfl ?_ ?_
                rotate_left 2
                · go_simp
                  constructor
                  · rfl
                  · rfl
                refine hK.out _ _ ?_
                clear hK K
                refine norm_ (a' := ?_) ?_ ?_
                rotate_left
                · show Act.put _ (some 59) _ = _
                  simp only [Act.put, List.setIfInBounds_toArray, List.set_cons_zero, List.set_cons_succ, i64_w, i32_w]
                  rfl
                refine last_ (i := 13) (N := some 60) #[true, true, true, true, true, true, true, true, true, true, true, true, true, true, false] rfl rfl (one_of HT_.out (by kernel_rfl)) (by decide) (fun K hK => ?_)
                refine Kd.R_append_step k54 (w0 := w) w.heap.size (by rfl) (.tmp 47) (.tmp 59) 25 54 (.agg #[(.int .i64 0), (.int .i64 0), (.bool false)]) 24 rfl Try.underlying25 info54 rfl (by decide) (by omega) u13 x13_1 (⟨0, (rd_T54 t314 x14_1).f1, (rd_T54 t314 x14_1).f2⟩ : S54) [.int .i64 0, .int .i64 ((rd_T54 t314 x14_1).f1), .bool ((rd_T54 t314 x14_1).f2)] (fun k_ => some k_ ≠ (.slice (some ad317) t314.length co32 : Value).ownBlock) (fun _ => False) rfl rfl ?aP (fun _ hk => hk.elim) ?aF ?aO ?aB ?aS ?aL ?_
                (case aP => exact k54_mkM _ _ _ (⟨0, (rd_T54 t314 x14_1).f1, (rd_T54 t314 x14_1).f2⟩ : S54))
                (case aB => exact (by repeat (first | (with_reducible first | exact HB.out | apply below_alloc | apply pw_below_drewN | apply below_drew1 | refine below_set ?_ GE305.out | refine below_set ?_ GE309.out) | exact HB.out)))
                (case aF => exact (fun k_ hk => Kd.fresh' (Kd.R_lt (by (with_reducible repeat (first | apply Kd.R_alloc | apply Kd.R_drewN | apply Kd.R_drew)); exact HO_12.out)) k_ hk))
                (case aO => exact (by (with_reducible repeat (first | apply Kd.R_alloc | apply Kd.R_drewN | apply Kd.R_drew)); exact HO_13.out))
                (case aS => exact (below_size (by repeat (first | (with_reducible first | exact HB.out | apply below_alloc | apply pw_below_drewN | apply below_drew1 | refine below_set ?_ GE305.out | refine below_set ?_ GE309.out) | exact HB.out))))
                (case aL => have := LMc31.out; omega)
                intro v321 w34 ho hb hg hat
                rw [← Ny320.out] at ho
                have n0_ := Aside0.mk (Kd.R_over' (by (with_reducible repeat (first | apply Kd.R_alloc | apply Kd.R_drewN | apply Kd.R_drew)); exact HO_10.out) (Kd.R_typed (by (with_reducible repeat (first | apply Kd.R_alloc | apply Kd.R_drewN | apply Kd.R_drew)); exact HO_13.out)) (by decide) hg)
                have n1_ := Aside0.mk (Kd.R_after (ok := (fun _ => True)) (by (with_reducible repeat (first | apply Kd.R_alloc | apply Kd.R_drewN | apply Kd.R_drew)); exact Kd.R_mono HO_12.out (fun _ hk => ⟨trivial, hk⟩)) hg hat)
                have n2_ := Aside0.mk (blk_grown (g := gb305) (o := .cells #[.int .u8 a0_0, .int .u8 a0_1, .int .u8 a0_2] 26 (0, 0)) (by (with_reducible repeat (first | refine blk_drewN ?_ _ | refine blk_drew ?_ | refine blk_alloc ?_ _)); exact BK305.out) hg (Kd.R_ne HO_13.out BK305.out (by decide)))
                have n3_ := Aside0.mk (blk_grown (g := gb309) (o := .cells #[.int .i64 t306, .int .i64 t307, .int .i64 t308] 23 (0, 0)) (by (with_reducible repeat (first | refine blk_drewN ?_ _ | refine blk_drew ?_ | refine blk_alloc ?_ _)); exact BK309.out) hg (Kd.R_ne HO_13.out BK309.out (by decide)))
                have n4_ := Aside0.mk (hb)
                have n5_ := Aside0.mk (ho)
                clear HO_10
                clear HO_12
                clear BK305
                clear BK309
                clear HB
                clear HO_13
                have HO_10 := n0_
                have HO_12 := n1_
                have BK305 := n2_
                have BK309 := n3_
                have HB := n4_
                have HO322 := n5_
                clear n0_ n1_ n2_ n3_ n4_ n5_
                clear ho hb hg hat
                refine hK.out _ _ ?_
                clear hK K
                refine norm_ (a' := ?_) ?_ ?_
                rotate_left
                · show Act.put _ (some 60) _ = _
                  simp only [Act.put, List.setIfInBounds_toArray, List.set_cons_zero, List.set_cons_succ, i64_w, i32_w]
                  rfl
                refine pure_ (i := 14) (N := some 13) (v := ?_) (a' := ?_) #[true, true, true, true, true, true, true, true, true, true, true, true, true, true, true] rfl rfl (any_of HT_.out (by kernel_rfl)) (fun _ _ _ h => h) (Or.inl ⟨by rfl, ?_⟩) ?_ ?_
                rotate_left
                · intro w'
                  go_simp
                  with_reducible rfl
                rotate_left
                · simp only [Act.put, List.setIfInBounds_toArray, List.set_cons_zero, List.set_cons_succ, i64_w, i32_w]
                  rfl
                refine done_ (done_of HT_.out (by kernel_rfl)) ?_
                try go_wp2
                go_roundg k1
                case measure => have := HK1.out; omega
                case rel => exact ⟨(y320), (wrap64 (x14_1 + 1)), (by first | rfl | (simp; done) | (simp [*]; done)), H', ⟨by have := HK1.out; omega⟩, ⟨by (with_reducible repeat (first | apply Kd.R_alloc | apply Kd.R_drewN | apply Kd.R_drew)); exact HO_10.out⟩, ⟨by (with_reducible repeat (first | apply Kd.R_alloc | apply Kd.R_drewN | apply Kd.R_drew)); exact Kd.R_mono HO_12.out (fun _ hk => hk.2)⟩, ⟨by (with_reducible repeat (first | apply Kd.R_alloc | apply Kd.R_drewN | apply Kd.R_drew)); exact HO322.out⟩, ⟨by (with_reducible repeat (first | refine blk_drewN ?_ _ | refine blk_drew ?_ | refine blk_alloc ?_ _)); exact BK305.out⟩, ⟨by (with_reducible repeat (first | refine blk_drewN ?_ _ | refine blk_drew ?_ | refine blk_alloc ?_ _)); exact BK309.out⟩, ⟨by repeat (first | (with_reducible first | exact HB.out | apply below_alloc | apply pw_below_drewN | apply below_drew1 | refine below_set ?_ GE305.out | refine below_set ?_ GE309.out) | exact HB.out)⟩⟩
              · rw [if_neg c31] at H
                exact absurd H (by simp)
            · rw [if_neg c30] at H
              have c30b0 : (((rd_T54 t314 x14_1).f0) == (Int.tmod (wrap64 (a3)) (t310.length : Int))) = false := beq_eq_false_iff_ne.mpr c30
              have c30b1 : (((rd_T54 t314 x14_1).f0) != (Int.tmod (wrap64 (a3)) (t310.length : Int))) = true := bne_iff_ne.mpr c30
              have H' := Aside0.mk H
              clear H
              obtain ⟨Ao35, co35, eo35⟩ := Kd.R_slice HO_12.out
              subst eo35
              have p317 : 0 ≤ (x14_1 : Int) := of_decide_eq_true (by first | (with_reducible assumption) | assumption)
              have q317 : x14_1 < (t314.length : Int) := of_decide_eq_true (by first | (with_reducible assumption) | assumption)
              obtain ⟨Aq38, cq38, eq38⟩ := Kd.R_slice HO_12.out
              (first | subst eq38 | clear eq38)
              obtain ⟨ad317, e317, hx317_0, hx317_1, hx317_2⟩ := at_T54 (Kd.R_reads' HO_12.out).2.2 x14_1 p317 q317
              cases e317
              replace p317 := eq_true p317
              replace q317 := eq_true q317
              go_wp2
              go_roundg k1
              case measure => have := HK1.out; omega
              case rel => exact ⟨(x13_1), (wrap64 (x14_1 + 1)), (by first | rfl | (simp; done) | (simp [*]; done)), H', ⟨by have := HK1.out; omega⟩, ⟨by (with_reducible repeat (first | apply Kd.R_alloc | apply Kd.R_drewN | apply Kd.R_drew)); exact HO_10.out⟩, ⟨by (with_reducible repeat (first | apply Kd.R_alloc | apply Kd.R_drewN | apply Kd.R_drew)); exact HO_12.out⟩, ⟨by (with_reducible repeat (first | apply Kd.R_alloc | apply Kd.R_drewN | apply Kd.R_drew)); exact HO_13.out⟩, ⟨by (with_reducible repeat (first | refine blk_drewN ?_ _ | refine blk_drew ?_ | refine blk_alloc ?_ _)); exact BK305.out⟩, ⟨by (with_reducible repeat (first | refine blk_drewN ?_ _ | refine blk_drew ?_ | refine blk_alloc ?_ _)); exact BK309.out⟩, ⟨by repeat (first | (with_reducible first | exact HB.out | apply below_alloc | apply pw_below_drewN | apply below_drew1 | refine below_set ?_ GE305.out | refine below_set ?_ GE309.out) | exact HB.out)⟩⟩
          · rw [if_neg c29] at H
            exact absurd H (by simp)
        · rw [if_neg c28] at H
          have c28b0 : decide (x14_1 < (t314.length : Int)) = false := decide_eq_false c28
          clear c28
          replace H := Option.bind_eq_some_iff.mp H
          obtain ⟨⟨t323, t326⟩, A360, H⟩ := H
          replace H : (if 0 ≤ (Int.tmod (wrap64 (a3)) (t310.length : Int)) then (if (Int.tmod (wrap64 (a3)) (t310.length : Int)) ≤ (wrap64 ((Int.tmod (wrap64 (a3)) (t310.length : Int)) + 1)) then (if (wrap64 ((Int.tmod (wrap64 (a3)) (t310.length : Int)) + 1)) ≤ (t310.length : Int) then ((notice_Serve.f k1 t306 t307 t308 ((t310.take ((wrap64 ((Int.tmod (wrap64 (a3)) (t310.length : Int)) + 1)) : Int).toNat).drop ((Int.tmod (wrap64 (a3)) (t310.length : Int)) : Int).toNat) x13_1).bind fun bt331 => ((insolvencylaw34_awake.f k1).bind fun t335 => (if t335 = true then (if t326 = 0 then (if bt331.2 = 0 then (if (t323.length : Int) = (t310.length : Int) then (if (bt331.1.length : Int) = 1 then (if (Int.tmod (wrap64 (a3)) (t310.length : Int)) < (t323.length : Int) then (if 0 < (bt331.1.length : Int) then (some (((rd_T50 t323 (Int.tmod (wrap64 (a3)) (t310.length : Int))).f0) == ((rd_T50 bt331.1 0).f0) && (((rd_T50 t323 (Int.tmod (wrap64 (a3)) (t310.length : Int))).f1) == ((rd_T50 bt331.1 0).f1) && (((rd_T50 t323 (Int.tmod (wrap64 (a3)) (t310.length : Int))).f2) == ((rd_T50 bt331.1 0).f2) && (((rd_T50 t323 (Int.tmod (wrap64 (a3)) (t310.length : Int))).f3) == ((rd_T50 bt331.1 0).f3)))))) else (none)) else (none)) else (none)) else (none)) else (none)) else (none)) else (none)))) else (none)) else (none)) else (none)) = some r := H
          have A36 := Aside0.mk A360
          clear A360
          obtain ⟨ji37, hji37⟩ : ∃ j_ : Int, (Int.tmod (wrap64 (a3)) (t310.length : Int)) = j_ := ⟨_, rfl⟩
          replace H : (if 0 ≤ (ji37) then (if (ji37) ≤ (wrap64 ((ji37) + 1)) then (if (wrap64 ((ji37) + 1)) ≤ (t310.length : Int) then ((notice_Serve.f k1 t306 t307 t308 ((t310.take ((wrap64 ((ji37) + 1)) : Int).toNat).drop ((ji37) : Int).toNat) x13_1).bind fun bt331 => ((insolvencylaw34_awake.f k1).bind fun t335 => (if t335 = true then (if t326 = 0 then (if bt331.2 = 0 then (if (t323.length : Int) = (t310.length : Int) then (if (bt331.1.length : Int) = 1 then (if (ji37) < (t323.length : Int) then (if 0 < (bt331.1.length : Int) then (some (((rd_T50 t323 (ji37)).f0) == ((rd_T50 bt331.1 0).f0) && (((rd_T50 t323 (ji37)).f1) == ((rd_T50 bt331.1 0).f1) && (((rd_T50 t323 (ji37)).f2) == ((rd_T50 bt331.1 0).f2) && (((rd_T50 t323 (ji37)).f3) == ((rd_T50 bt331.1 0).f3)))))) else (none)) else (none)) else (none)) else (none)) else (none)) else (none)) else (none)))) else (none)) else (none)) else (none)) = some r := by first | (rw [hji37] at H; exact H) | (simp only [hji37] at H ⊢; exact H)
          (try rw [hji37] at A36)
          by_cases c38 : 0 ≤ (ji37)
          · rw [if_pos c38] at H
            have c38b0 := eq_true c38
            have c38b1 : decide (0 ≤ (ji37)) = true := decide_eq_true c38
            clear c38
            by_cases c39 : (ji37) ≤ (wrap64 ((ji37) + 1))
            · rw [if_pos c39] at H
              have c39b0 := eq_true c39
              have c39b1 : decide ((ji37) ≤ (wrap64 ((ji37) + 1))) = true := decide_eq_true c39
              by_cases c40 : (wrap64 ((ji37) + 1)) ≤ (t310.length : Int)
              · rw [if_pos c40] at H
                have c40b0 := eq_true c40
                have c40b1 : decide ((wrap64 ((ji37) + 1)) ≤ (t310.length : Int)) = true := decide_eq_true c40
                obtain ⟨y327, hy327⟩ : ∃ y_ : List (S46), y_ = ((t310.take ((wrap64 ((ji37) + 1)) : Int).toNat).drop ((ji37) : Int).toNat) := ⟨_, rfl⟩
                replace H : ((notice_Serve.f k1 t306 t307 t308 y327 x13_1).bind fun bt331 => ((insolvencylaw34_awake.f k1).bind fun t335 => (if t335 = true then (if t326 = 0 then (if bt331.2 = 0 then (if (t323.length : Int) = (t310.length : Int) then (if (bt331.1.length : Int) = 1 then (if (ji37) < (t323.length : Int) then (if 0 < (bt331.1.length : Int) then (some (((rd_T50 t323 (ji37)).f0) == ((rd_T50 bt331.1 0).f0) && (((rd_T50 t323 (ji37)).f1) == ((rd_T50 bt331.1 0).f1) && (((rd_T50 t323 (ji37)).f2) == ((rd_T50 bt331.1 0).f2) && (((rd_T50 t323 (ji37)).f3) == ((rd_T50 bt331.1 0).f3)))))) else (none)) else (none)) else (none)) else (none)) else (none)) else (none)) else (none)))) = some r := by first | (rw [hy327]; with_reducible exact H) | (have H2_ := (Option.bind_some _ _).symm.trans H; rw [hy327]; with_reducible exact H2_) | (have H2_ := (Option.bind_some _ _).symm.trans H; with_reducible exact H2_) | with_reducible exact H | (rw [hy327]; exact H) | exact H
                have Ny327 := Aside0.mk hy327
                clear hy327
                replace H := Option.bind_eq_some_iff.mp H
                obtain ⟨⟨t331, t334⟩, A410, H⟩ := H
                replace H : ((insolvencylaw34_awake.f k1).bind fun t335 => (if t335 = true then (if t326 = 0 then (if t334 = 0 then (if (t323.length : Int) = (t310.length : Int) then (if (t331.length : Int) = 1 then (if (ji37) < (t323.length : Int) then (if 0 < (t331.length : Int) then (some (((rd_T50 t323 (ji37)).f0) == ((rd_T50 t331 0).f0) && (((rd_T50 t323 (ji37)).f1) == ((rd_T50 t331 0).f1) && (((rd_T50 t323 (ji37)).f2) == ((rd_T50 t331 0).f2) && (((rd_T50 t323 (ji37)).f3) == ((rd_T50 t331 0).f3)))))) else (none)) else (none)) else (none)) else (none)) else (none)) else (none)) else (none))) = some r := H
                have A41 := Aside0.mk A410
                clear A410
                replace H := Option.bind_eq_some_iff.mp H
                obtain ⟨t335, A420, H⟩ := H
                replace H : (if t335 = true then (if t326 = 0 then (if t334 = 0 then (if (t323.length : Int) = (t310.length : Int) then (if (t331.length : Int) = 1 then (if (ji37) < (t323.length : Int) then (if 0 < (t331.length : Int) then (some (((rd_T50 t323 (ji37)).f0) == ((rd_T50 t331 0).f0) && (((rd_T50 t323 (ji37)).f1) == ((rd_T50 t331 0).f1) && (((rd_T50 t323 (ji37)).f2) == ((rd_T50 t331 0).f2) && (((rd_T50 t323 (ji37)).f3) == ((rd_T50 t331 0).f3)))))) else (none)) else (none)) else (none)) else (none)) else (none)) else (none)) else (none)) = some r := H
                have A42 := Aside0.mk A420
                clear A420
                by_cases c43 : t335 = true
                · subst c43
                  have H1 : (if t326 = 0 then (if t334 = 0 then (if (t323.length : Int) = (t310.length : Int) then (if (t331.length : Int) = 1 then (if (ji37) < (t323.length : Int) then (if 0 < (t331.length : Int) then (some (((rd_T50 t323 (ji37)).f0) == ((rd_T50 t331 0).f0) && (((rd_T50 t323 (ji37)).f1) == ((rd_T50 t331 0).f1) && (((rd_T50 t323 (ji37)).f2) == ((rd_T50 t331 0).f2) && (((rd_T50 t323 (ji37)).f3) == ((rd_T50 t331 0).f3)))))) else (none)) else (none)) else (none)) else (none)) else (none)) else (none)) = some r := by rw [if_pos rfl] at H; exact H
                  clear H
                  have H := H1
                  clear H1
                  by_cases c44 : t326 = 0
                  · rw [if_pos c44] at H
                    have c44b0 : (t326 == 0) = true := beq_iff_eq.mpr c44
                    have c44b1 : (t326 != 0) = false := bne_eq_false_iff_eq.mpr c44
                    clear c44
                    by_cases c45 : t334 = 0
                    · rw [if_pos c45] at H
                      have c45b0 : (t334 == 0) = true := beq_iff_eq.mpr c45
                      have c45b1 : (t334 != 0) = false := bne_eq_false_iff_eq.mpr c45
                      clear c45
                      by_cases c46 : (t323.length : Int) = (t310.length : Int)
                      · rw [if_pos c46] at H
                        have c46b0 : ((t323.length : Int) == (t310.length : Int)) = true := beq_iff_eq.mpr c46
                        have c46b1 : ((t323.length : Int) != (t310.length : Int)) = false := bne_eq_false_iff_eq.mpr c46
                        have c46b2 : (t323.length == t310.length) = true := by first | simpa using c46 | (simp at c46 ⊢; omega)
                        clear c46
                        by_cases c47 : (t331.length : Int) = 1
                        · rw [if_pos c47] at H
                          have c47b0 : ((t331.length : Int) == 1) = true := beq_iff_eq.mpr c47
                          have c47b1 : ((t331.length : Int) != 1) = false := bne_eq_false_iff_eq.mpr c47
                          clear c47
                          by_cases c48 : (ji37) < (t323.length : Int)
                          · rw [if_pos c48] at H
                            have c48b0 : decide ((ji37) < (t323.length : Int)) = true := decide_eq_true c48
                            clear c48
                            by_cases c49 : 0 < (t331.length : Int)
                            · rw [if_pos c49] at H
                              have c49b0 : decide (0 < (t331.length : Int)) = true := decide_eq_true c49
                              have c49b1 : decide (0 < t331.length) = true := decide_eq_true (by omega)
                              clear c49
                              obtain rfl := Option.some.inj H
                              obtain ⟨Ao50, co50, eo50⟩ := Kd.R_slice HO_12.out
                              subst eo50
                              have hnb51 := NB309_305.out
                              have hnc51 := NB305_309.out
                              have hcz52_0 : wr.cell? ⟨gb309, 0, none⟩ = some (.int .i64 t306) := (blk_cell BK309.out 0).trans rfl
                              have hcz52_1 : wr.cell? ⟨gb309, 1, none⟩ = some (.int .i64 t307) := (blk_cell BK309.out 1).trans rfl
                              have hcz52_2 : wr.cell? ⟨gb309, 2, none⟩ = some (.int .i64 t308) := (blk_cell BK309.out 2).trans rfl
                              have hfz52_0 := blk_frozen BK309.out 0
                              have hfz52_1 := blk_frozen BK309.out 1
                              have hfz52_2 := blk_frozen BK309.out 2
                              try go_wp2_with (first | ((with_reducible refine gate_callee (f := 15) rfl ?_); refine goesL_ (some 65) rfl rfl Try.func15 (by kernel_rfl) rfl #[.agg #[.int .i64 t306, .int .i64 t307, .int .i64 t308], .slice Ao26 t310.length co26, .slice Ao50 t314.length co50] rfl (by (try simp only [List.map_toArray, List.map_cons, List.map_nil]); first | done | rfl | (simp only [List.length_drop, List.length_take]; rfl)) ?_; (with_reducible refine (notice_Serve.calls k1 t306 t307 t308 _ _ t310 _ _ t314 t323 t326 _ ?side1 ?side2 ?side3 ?side4 A36.out).mono ?_); (case side1 => repeat (first | exact (Kd.R_reads' HO_10.out).2.2 | (with_reducible refine Kd.C_alloc ?_ _) | (with_reducible refine Kd.C_drewN ?_ _) | (with_reducible refine Kd.C_drew ?_))); (case side2 => exact (Kd.R_reads' HO_10.out).2.1); (case side3 => repeat (first | exact (Kd.R_reads' HO_12.out).2.2 | (with_reducible refine Kd.C_alloc ?_ _) | (with_reducible refine Kd.C_drewN ?_ _) | (with_reducible refine Kd.C_drew ?_))); (case side4 => exact (Kd.R_reads' HO_12.out).2.1); rintro e w53 ⟨v324, rfl, ho0, hb⟩; refine ⟨_, rfl, ?_⟩; have n0_ := Aside0.mk (Kd.R_below (by (with_reducible repeat (first | apply Kd.R_alloc | apply Kd.R_drewN | apply Kd.R_drew)); exact HO_10.out) hb); have n1_ := Aside0.mk (Kd.R_below (by (with_reducible repeat (first | apply Kd.R_alloc | apply Kd.R_drewN | apply Kd.R_drew)); exact HO_12.out) hb); have n2_ := Aside0.mk (Kd.R_below (by (with_reducible repeat (first | apply Kd.R_alloc | apply Kd.R_drewN | apply Kd.R_drew)); exact HO_13.out) hb); have n3_ := Aside0.mk (Kd.R_lower ho0 (below_size (by repeat (first | (with_reducible first | exact HB.out | apply below_alloc | apply pw_below_drewN | apply below_drew1 | refine below_set ?_ GE305.out | refine below_set ?_ GE309.out) | exact HB.out)))); have n4_ := Aside0.mk (blk_below (g := gb305) (o := .cells #[.int .u8 a0_0, .int .u8 a0_1, .int .u8 a0_2] 26 (0, 0)) (by (with_reducible repeat (first | refine blk_drewN ?_ _ | refine blk_drew ?_ | refine blk_alloc ?_ _)); exact BK305.out) hb); have n5_ := Aside0.mk (blk_below (g := gb309) (o := .cells #[.int .i64 t306, .int .i64 t307, .int .i64 t308] 23 (0, 0)) (by (with_reducible repeat (first | refine blk_drewN ?_ _ | refine blk_drew ?_ | refine blk_alloc ?_ _)); exact BK309.out) hb); have n6_ := Aside0.mk (below_step (by repeat (first | (with_reducible first | exact HB.out | apply below_alloc | apply pw_below_drewN | apply below_drew1 | refine below_set ?_ GE305.out | refine below_set ?_ GE309.out) | exact HB.out)) hb); clear HO_10; clear HO_12; clear HO_13; clear BK305; clear BK309; clear HB; have HO_10 := n0_; have HO_12 := n1_; have HO_13 := n2_; have HO325 := n3_; have BK305 := n4_; have BK309 := n5_; have HB := n6_; clear n0_ n1_ n2_ n3_ n4_ n5_ n6_; (try clear hb); (try clear hb2); (try clear hk); (try clear hi); (try clear ho0)))
                              have n0_ := Aside0.mk (Kd.R_drew HO_10.out)
                              have n1_ := Aside0.mk (Kd.R_drew HO_12.out)
                              have n2_ := Aside0.mk (Kd.R_drew HO_13.out)
                              have n3_ := Aside0.mk (Kd.R_drew HO325.out)
                              have n4_ := Aside0.mk (blk_drew BK305.out)
                              have n5_ := Aside0.mk (blk_drew BK309.out)
                              have n6_ := Aside0.mk (below_drew1 HB.out)
                              clear HO_10
                              clear HO_12
                              clear HO_13
                              clear HO325
                              clear BK305
                              clear BK309
                              clear HB
                              have HO_10 := n0_
                              have HO_12 := n1_
                              have HO_13 := n2_
                              have HO325 := n3_
                              have BK305 := n4_
                              have BK309 := n5_
                              have HB := n6_
                              clear n0_ n1_ n2_ n3_ n4_ n5_ n6_
                              have q55 : ((wrap64 ((ji37) + 1)) : Int) ≤ ((t310.length : Int) : Int) := of_decide_eq_true (by first | (with_reducible assumption) | assumption)
                              obtain ⟨i055, hi055, _, hsz55, _⟩ := info_parts info46
                              have hroom55 : t310.length ≤ co26 := (Kd.R_reads' HO_10.out).2.1
                              have hC55 : Kd.C k46 _ Ao26 t310.length t310 := (Kd.R_reads' HO_10.out).2.2
                              have ql55 : ((ji37) : Int) ≤ ((wrap64 ((ji37) + 1)) : Int) := of_decide_eq_true (by first | (with_reducible assumption) | assumption)
                              have q055 : (0 : Int) ≤ ((ji37) : Int) := of_decide_eq_true (by first | (with_reducible assumption) | assumption)
                              have hcut55 := cut_mid (P := Try.prog) 24 46 .i64 .i64 Try.underlying24 hi055 2 hsz55 Ao26 t310.length co26 (ji37) (wrap64 ((ji37) + 1)) q055 ql55 q55 hroom55
                              have hr55 := Kd.C_mid (lo := ((ji37) : Int).toNat) (hi := ((wrap64 ((ji37) + 1)) : Int).toNat) (c := co26) hC55 (by omega) (by omega) hroom55
                              obtain ⟨A55, hA55⟩ : ∃ A1, A1 = (if co26 = ((ji37) : Int).toNat then Ao26 else (Ao26 : Option Addr).map (·.add (((ji37) : Int).toNat * 2))) := ⟨_, rfl⟩
                              obtain ⟨c55, hc55⟩ : ∃ c1, c1 = co26 - ((ji37) : Int).toNat := ⟨_, rfl⟩
                              have hy55 : y327.length = ((wrap64 ((ji37) + 1)) : Int).toNat - ((ji37) : Int).toNat := (by rw [Ny327.out, List.length_drop, List.length_take] <;> omega)
                              rw [show ((t310).take ((wrap64 ((ji37) + 1)) : Int).toNat).drop ((ji37) : Int).toNat = y327 from Ny327.out.symm] at hr55
                              replace hr55 : Kd.C k46 _ A55 y327.length y327 := (by rw [hA55]; exact hr55)
                              rw [← hy55, ← hA55, ← hc55] at hcut55
                              have HR330 := Aside0.mk hr55
                              have HC330 := Aside0.mk (show y327.length ≤ c55 from by rw [hy55, hc55]; exact Nat.sub_le_sub_right (Nat.le_trans (by omega) hroom55) _)
                              clear hr55 hC55 hroom55 hi055 hsz55 hc55
                              have KY55 := Aside0.mk hy55
                              have KA55 := Aside0.mk hA55
                              clear hy55 hA55
                              have KL55 := Aside0.mk (show ((wrap64 ((ji37) + 1)) : Int).toNat ≤ t310.length from by omega)
                              have KM55 := Aside0.mk (show ((ji37) : Int).toNat ≤ ((wrap64 ((ji37) + 1)) : Int).toNat from by omega)
                              replace q55 := eq_true q55
                              obtain ⟨Ao56, co56, eo56⟩ := Kd.R_slice HO_13.out
                              (first | subst eo56 | (injection eo56 with f1_ f2_ f3_; have f4_ := f1_.symm; have f5_ := f3_.symm; clear f1_ f2_ f3_; subst f4_; subst f5_))
                              refine start_ (n := 13) (S := fun w' => w'.cell? ⟨gb309, 0, none⟩ = some (.int .i64 t306) ∧ w'.cell? ⟨gb309, 1, none⟩ = some (.int .i64 t307) ∧ w'.cell? ⟨gb309, 2, none⟩ = some (.int .i64 t308)) (ds := []) #[false, false, false, false, false, false, false, false, false, false, false, false, false] (by kernel_rfl) rfl rfl ⟨(blk_cell BK309.out 0).trans rfl, (blk_cell BK309.out 1).trans rfl, (blk_cell BK309.out 2).trans rfl⟩ (fun hHeld => ?_); refine with_tabW insolvencylaw34_NoticeAlone.tab14 insolvencylaw34_NoticeAlone.bits14 (fun HT_ HW_ => ?_)
                              generalize w53.drew = w54 at HO_10 HO_12 HO_13 HO325 BK305 BK309 HB HR330 hHeld ⊢
                              refine pure_ (i := 1) (N := some 70) (v := ?_) (a' := ?_) #[false, true, false, false, false, false, false, false, false, false, false, false, false] rfl rfl (any_of HT_.out (by kernel_rfl)) (fun _ _ _ h => h) (Or.inl ⟨by rfl, ?_⟩) ?_ ?_
                              rotate_left
                              · intro w'
                                go_simp
                                with_reducible rfl
                              rotate_left
                              · simp only [Act.put, List.setIfInBounds_toArray, List.set_cons_zero, List.set_cons_succ, i64_w, i32_w]
                                rfl
                              refine pure_ (i := 2) (N := some 71) (v := ?_) (a' := ?_) #[false, true, true, false, false, false, false, false, false, false, false, false, false] rfl rfl (any_of HT_.out (by kernel_rfl)) (fun _ _ _ h => h) (Or.inl ⟨by rfl, ?_⟩) ?_ ?_
                              rotate_left
                              · intro w'
                                go_simp
                                with_reducible rfl
                              rotate_left
                              · simp only [Act.put, List.setIfInBounds_toArray, List.set_cons_zero, List.set_cons_succ, i64_w, i32_w]
                                rfl
                              refine pure_ (i := 3) (N := some 72) (v := ?_) (a' := ?_) #[false, true, true, true, false, false, false, false, false, false, false, false, false] rfl rfl (any_of HT_.out (by kernel_rfl)) (fun _ _ _ h => h) (Or.inl ⟨by rfl, ?_⟩) ?_ ?_
                              rotate_left
                              · intro w'
                                go_simp
                                with_reducible rfl
                              rotate_left
                              · simp only [Act.put, List.setIfInBounds_toArray, List.set_cons_zero, List.set_cons_succ, i64_w, i32_w]
                                rfl
                              refine pure_ (i := 4) (N := some 73) (v := ?_) (a' := ?_) #[false, true, true, true, true, false, false, false, false, false, false, false, false] rfl rfl (any_of HT_.out (by kernel_rfl)) (fun _ _ _ h => h) (Or.inl ⟨by rfl, ?_⟩) ?_ ?_
                              rotate_left
                              · intro w'
                                go_simp
                                with_reducible rfl
                              rotate_left
                              · simp only [Act.put, List.setIfInBounds_toArray, List.set_cons_zero, List.set_cons_succ, i64_w, i32_w]
                                rfl
                              refine pure_ (i := 5) (N := some 74) (v := ?_) (a' := ?_) #[false, true, true, true, true, true, false, false, false, false, false, false, false] rfl rfl (any_of HT_.out (by kernel_rfl)) (fun _ _ _ h => h) (Or.inl ⟨by rfl, ?_⟩) ?_ ?_
                              rotate_left
                              · intro w'
                                go_simp
                                with_reducible rfl
                              rotate_left
                              · simp only [Act.put, List.setIfInBounds_toArray, List.set_cons_zero, List.set_cons_succ, i64_w, i32_w]
                                rfl
                              refine pure_ (i := 6) (N := some 75) (v := ?_) (a' := ?_) #[false, true, true, true, true, true, true, false, false, false, false, false, false] rfl rfl (any_of HT_.out (by kernel_rfl)) (fun _ _ _ h => h) (Or.inl ⟨by rfl, ?_⟩) ?_ ?_
                              rotate_left
                              · intro w'
                                go_simp
                                with_reducible rfl
                              rotate_left
                              · simp only [Act.put, List.setIfInBounds_toArray, List.set_cons_zero, List.set_cons_succ, i64_w, i32_w]
                                rfl
                              refine take_ (i := 0) (N := some 69) (v := ?_) (a' := ?_) #[true, true, true, true, true, true, true, false, false, false, false, false, false] rfl rfl (take_ofW HT_.out HW_.out (by kernel_rfl)) (fun _ _ _ h => h) (Or.inl ⟨by rfl, ?_⟩) hHeld ?_ ?_
                              rotate_left
                              · rintro w' ⟨s0, s1, s2⟩
                                go_simp
                                with_reducible rfl
                              rotate_left
                              · simp only [Act.put, List.setIfInBounds_toArray, List.set_cons_zero, List.set_cons_succ, i64_w, i32_w]
                                rfl
                              refine one_ (i := 7) (N := some 76) #[true, true, true, true, true, true, true, true, false, false, false, false, false] rfl rfl (one_of HT_.out (by kernel_rfl)) (by decide) (fun K hK => ?_)
                              refine goes_ Try.func15 (by kernel_rfl) rfl #[.agg #[.int .i64 t306, .int .i64 t307, .int .i64 t308], .slice A55 y327.length c55, .slice Ao56 x13_1.length co56] (by rfl) rfl rfl (by (try simp only [List.map_toArray, List.map_cons, List.map_nil]); first | done | rfl | (simp only [List.length_drop, List.length_take]; rfl)) ?_
                              with_reducible refine (notice_Serve.calls k1 t306 t307 t308 _ _ y327 _ _ x13_1 t331 t334 _ ?side1 ?side2 ?side3 ?side4 A41.out).mono ?_
                              (case side1 => repeat (first | exact (by repeat (first | (with_reducible exact HR330.out) | (with_reducible refine Kd.C_alloc ?_ _) | (with_reducible refine Kd.C_drewN ?_ _) | (with_reducible refine Kd.C_drew ?_) | exact HR330.out)) | (with_reducible refine Kd.C_alloc ?_ _) | (with_reducible refine Kd.C_drewN ?_ _) | (with_reducible refine Kd.C_drew ?_)))
                              (case side2 => exact HC330.out)
                              (case side3 => repeat (first | exact (Kd.R_reads' HO_13.out).2.2 | (with_reducible refine Kd.C_alloc ?_ _) | (with_reducible refine Kd.C_drewN ?_ _) | (with_reducible refine Kd.C_drew ?_)))
                              (case side4 => exact (Kd.R_reads' HO_13.out).2.1)
                              rintro e w57 ⟨v332, rfl, ho0, hb⟩
                              refine ⟨_, rfl, ?_⟩
                              have n0_ := Aside0.mk (Kd.R_below (by (with_reducible repeat (first | apply Kd.R_alloc | apply Kd.R_drewN | apply Kd.R_drew)); exact HO_10.out) hb)
                              have n1_ := Aside0.mk (Kd.R_below (by (with_reducible repeat (first | apply Kd.R_alloc | apply Kd.R_drewN | apply Kd.R_drew)); exact HO_12.out) hb)
                              have n2_ := Aside0.mk (Kd.R_below (by (with_reducible repeat (first | apply Kd.R_alloc | apply Kd.R_drewN | apply Kd.R_drew)); exact HO_13.out) hb)
                              have n3_ := Aside0.mk (Kd.R_elder' (by (with_reducible repeat (first | apply Kd.R_alloc | apply Kd.R_drewN | apply Kd.R_drew)); exact HO325.out) (Kd.R_base ho0) hb)
                              have n4_ := Aside0.mk (Kd.R_lower (Kd.R_new' ho0 (Kd.R_lt (by (with_reducible repeat (first | apply Kd.R_alloc | apply Kd.R_drewN | apply Kd.R_drew)); exact HO325.out))) (below_size (by repeat (first | (with_reducible first | exact HB.out | apply below_alloc | apply pw_below_drewN | apply below_drew1 | refine below_set ?_ GE305.out | refine below_set ?_ GE309.out) | exact HB.out))))
                              have n5_ := Aside0.mk (blk_below (g := gb305) (o := .cells #[.int .u8 a0_0, .int .u8 a0_1, .int .u8 a0_2] 26 (0, 0)) (by (with_reducible repeat (first | refine blk_drewN ?_ _ | refine blk_drew ?_ | refine blk_alloc ?_ _)); exact BK305.out) hb)
                              have n6_ := Aside0.mk (blk_below (g := gb309) (o := .cells #[.int .i64 t306, .int .i64 t307, .int .i64 t308] 23 (0, 0)) (by (with_reducible repeat (first | refine blk_drewN ?_ _ | refine blk_drew ?_ | refine blk_alloc ?_ _)); exact BK309.out) hb)
                              have n7_ := Aside0.mk (Kd.C_below (by repeat (first | (with_reducible exact HR330.out) | (with_reducible refine Kd.C_alloc ?_ _) | (with_reducible refine Kd.C_drewN ?_ _) | (with_reducible refine Kd.C_drew ?_) | exact HR330.out)) hb)
                              have n8_ := Aside0.mk (below_step (by repeat (first | (with_reducible first | exact HB.out | apply below_alloc | apply pw_below_drewN | apply below_drew1 | refine below_set ?_ GE305.out | refine below_set ?_ GE309.out) | exact HB.out)) hb)
                              clear HO_10
                              clear HO_12
                              clear HO_13
                              clear HO325
                              clear BK305
                              clear BK309
                              clear HR330
                              clear HB
                              have HO_10 := n0_
                              have HO_12 := n1_
                              have HO_13 := n2_
                              have HO325 := n3_
                              have HO333 := n4_
                              have BK305 := n5_
                              have BK309 := n6_
                              have HR330 := n7_
                              have HB := n8_
                              clear n0_ n1_ n2_ n3_ n4_ n5_ n6_ n7_ n8_
                              (try clear hb)
                              (try clear hb2)
                              (try clear hk)
                              (try clear hi)
                              (try clear ho0)
                              refine hK.out _ _ ⟨(blk_cell BK309.out 0).trans rfl, (blk_cell BK309.out 1).trans rfl, (blk_cell BK309.out 2).trans rfl⟩ (fun hHeld => ?_)
                              clear hK K
                              refine norm_ (a' := ?_) ?_ ?_
                              rotate_left
                              · show Act.put _ (some 76) _ = _
                                simp only [Act.put, List.setIfInBounds_toArray, List.set_cons_zero, List.set_cons_succ, i64_w, i32_w]
                                rfl
                              refine pure_ (i := 8) (N := some 68) (v := ?_) (a' := ?_) #[true, true, true, true, true, true, true, true, true, false, false, false, false] rfl rfl (any_of HT_.out (by kernel_rfl)) (fun _ _ _ h => h) (Or.inl ⟨by rfl, ?_⟩) ?_ ?_
                              rotate_left
                              · intro w'
                                go_simp
                                with_reducible rfl
                              rotate_left
                              · simp only [Act.put, List.setIfInBounds_toArray, List.set_cons_zero, List.set_cons_succ, i64_w, i32_w]
                                rfl
                              refine pure_ (i := 9) (N := some 77) (v := ?_) (a' := ?_) #[true, true, true, true, true, true, true, true, true, true, false, false, false] rfl rfl (any_of HT_.out (by kernel_rfl)) (fun _ _ _ h => h) (Or.inl ⟨by rfl, ?_⟩) ?_ ?_
                              rotate_left
                              · intro w'
                                go_simp
                                with_reducible rfl
                              rotate_left
                              · simp only [Act.put, List.setIfInBounds_toArray, List.set_cons_zero, List.set_cons_succ, i64_w, i32_w]
                                rfl
                              refine pure_ (i := 10) (N := some 78) (v := ?_) (a' := ?_) #[true, true, true, true, true, true, true, true, true, true, true, false, false] rfl rfl (any_of HT_.out (by kernel_rfl)) (fun _ _ _ h => h) (Or.inl ⟨by rfl, ?_⟩) ?_ ?_
                              rotate_left
                              · intro w'
                                go_simp
                                with_reducible rfl
                              rotate_left
                              · simp only [Act.put, List.setIfInBounds_toArray, List.set_cons_zero, List.set_cons_succ, i64_w, i32_w]
                                rfl
                              refine pure_ (i := 11) (N := some 17) (v := ?_) (a' := ?_) #[true, true, true, true, true, true, true, true, true, true, true, true, false] rfl rfl (any_of HT_.out (by kernel_rfl)) (fun _ _ _ h => h) (Or.inl ⟨by rfl, ?_⟩) ?_ ?_
                              rotate_left
                              · intro w'
                                go_simp
                                with_reducible rfl
                              rotate_left
                              · simp only [Act.put, List.setIfInBounds_toArray, List.set_cons_zero, List.set_cons_succ, i64_w, i32_w]
                                rfl
                              refine pure_ (i := 12) (N := some 18) (v := ?_) (a' := ?_) #[true, true, true, true, true, true, true, true, true, true, true, true, true] rfl rfl (any_of HT_.out (by kernel_rfl)) (fun _ _ _ h => h) (Or.inl ⟨by rfl, ?_⟩) ?_ ?_
                              rotate_left
                              · intro w'
                                go_simp
                                with_reducible rfl
                              rotate_left
                              · simp only [Act.put, List.setIfInBounds_toArray, List.set_cons_zero, List.set_cons_succ, i64_w, i32_w]
                                rfl
                              refine done_ (done_of HT_.out (by kernel_rfl)) ?_
                              try go_wp2
                              have n0_ := Aside0.mk (Kd.R_drew HO_10.out)
                              have n1_ := Aside0.mk (Kd.R_drew HO_12.out)
                              have n2_ := Aside0.mk (Kd.R_drew HO_13.out)
                              have n3_ := Aside0.mk (Kd.R_drew HO325.out)
                              have n4_ := Aside0.mk (Kd.R_drew HO333.out)
                              have n5_ := Aside0.mk (blk_drew BK305.out)
                              have n6_ := Aside0.mk (blk_drew BK309.out)
                              have n7_ := Aside0.mk (Kd.C_drew HR330.out)
                              have n8_ := Aside0.mk (below_drew1 HB.out)
                              clear HO_10
                              clear HO_12
                              clear HO_13
                              clear HO325
                              clear HO333
                              clear BK305
                              clear BK309
                              clear HR330
                              clear HB
                              have HO_10 := n0_
                              have HO_12 := n1_
                              have HO_13 := n2_
                              have HO325 := n3_
                              have HO333 := n4_
                              have BK305 := n5_
                              have BK309 := n6_
                              have HR330 := n7_
                              have HB := n8_
                              clear n0_ n1_ n2_ n3_ n4_ n5_ n6_ n7_ n8_
                              have p336 : 0 ≤ ((ji37) : Int) := of_decide_eq_true (by first | (with_reducible assumption) | assumption)
                              have q336 : (ji37) < (t323.length : Int) := of_decide_eq_true (by first | (with_reducible assumption) | assumption)
                              obtain ⟨Aq39, cq39, eq39⟩ := Kd.R_slice HO325.out
                              (first | subst eq39 | clear eq39)
                              obtain ⟨ad336, e336, hx336_0, hx336_1, hx336_2, hx336_3⟩ := at_T50 (Kd.R_reads' HO325.out).2.2 (ji37) p336 q336
                              cases e336
                              replace p336 := eq_true p336
                              replace q336 := eq_true q336
                              have p337 : 0 ≤ (0 : Int) := (by omega)
                              have q337 : 0 < (t331.length : Int) := of_decide_eq_true (by first | (with_reducible assumption) | assumption)
                              obtain ⟨Aq40, cq40, eq40⟩ := Kd.R_slice HO333.out
                              (first | subst eq40 | clear eq40)
                              obtain ⟨ad337, e337, hx337_0, hx337_1, hx337_2, hx337_3⟩ := at_T50 (Kd.R_reads' HO333.out).2.2 0 p337 q337
                              cases e337
                              have qi337 : (0 < t331.length) = True := eq_true (by omega)
                              (try rw [show ((0 : Int)).toNat = 0 from rfl] at hx337_0)
                              (try rw [show 0 * 4 = 0 from rfl] at hx337_0)
                              (try rw [Addr.add_zero'] at hx337_0)
                              (try rw [show ((0 : Int)).toNat = 0 from rfl] at hx337_1)
                              (try rw [show 0 * 4 = 0 from rfl] at hx337_1)
                              (try rw [Addr.add_zero'] at hx337_1)
                              (try rw [show ((0 : Int)).toNat = 0 from rfl] at hx337_2)
                              (try rw [show 0 * 4 = 0 from rfl] at hx337_2)
                              (try rw [Addr.add_zero'] at hx337_2)
                              (try rw [show ((0 : Int)).toNat = 0 from rfl] at hx337_3)
                              (try rw [show 0 * 4 = 0 from rfl] at hx337_3)
                              (try rw [Addr.add_zero'] at hx337_3)
                              replace p337 := eq_true p337
                              replace q337 := eq_true q337
                              refine start_ (n := 32) (S := fun w' => w'.cell? (ad336.add (((ji37)).toNat * 4)) = some (.int .i64 ((rd_T50 t323 (ji37)).f0)) ∧ w'.cell? ⟨(ad336.add (((ji37)).toNat * 4)).block, (ad336.add (((ji37)).toNat * 4)).off + 1, none⟩ = some (.int .i64 ((rd_T50 t323 (ji37)).f1)) ∧ w'.cell? ⟨(ad336.add (((ji37)).toNat * 4)).block, (ad336.add (((ji37)).toNat * 4)).off + 2, none⟩ = some (.int .i64 ((rd_T50 t323 (ji37)).f2)) ∧ w'.cell? ⟨(ad336.add (((ji37)).toNat * 4)).block, (ad336.add (((ji37)).toNat * 4)).off + 3, none⟩ = some (.bool ((rd_T50 t323 (ji37)).f3)) ∧ w'.cell? ad337 = some (.int .i64 ((rd_T50 t331 0).f0)) ∧ w'.cell? ⟨ad337.block, ad337.off + 1, none⟩ = some (.int .i64 ((rd_T50 t331 0).f1)) ∧ w'.cell? ⟨ad337.block, ad337.off + 2, none⟩ = some (.int .i64 ((rd_T50 t331 0).f2)) ∧ w'.cell? ⟨ad337.block, ad337.off + 3, none⟩ = some (.bool ((rd_T50 t331 0).f3))) (ds := []) #[false, false, false, false, false, false, false, false, false, false, false, false, false, false, false, false, false, false, false, false, false, false, false, false, false, false, false, false, false, false, false, false] (by kernel_rfl) rfl rfl ⟨hx336_0, hx336_1, hx336_2, hx336_3, hx337_0, hx337_1, hx337_2, hx337_3⟩ (fun hHeld => ?_); refine with_tabW insolvencylaw34_NoticeAlone.tab15 insolvencylaw34_NoticeAlone.bits15 (fun HT_ HW_ => ?_)
                              generalize w57.drew = w58 at HO_10 HO_12 HO_13 HO325 HO333 BK305 BK309 HR330 HB hx336_0 hx336_1 hx336_2 hx336_3 hx337_0 hx337_1 hx337_2 hx337_3 hHeld ⊢
                              refine one_ (i := 0) (N := some 79) #[true, false, false, false, false, false, false, false, false, false, false, false, false, false, false, false, false, false, false, false, false, false, false, false, false, false, false, false, false, false, false, false] rfl rfl (one_of HT_.out (by kernel_rfl)) (by decide) (fun K hK => ?_)
                              refine goes_ Try.func9 (by kernel_rfl) rfl #[] (by rfl) rfl rfl (by (try simp only [List.map_toArray, List.map_cons, List.map_nil]); first | done | rfl | (simp only [List.length_drop, List.length_take]; rfl)) ?_
                              with_reducible refine (insolvencylaw34_awake.calls k1  true _ A42.out).mono ?_
                              rintro e w59 ⟨rfl, hb⟩
                              have HS0_ := (hb.cell (World.block_lt_of_cell? _ _ (hHeld.1))).trans (hHeld.1)
                              have HS1_ := (hb.cell (World.block_lt_of_cell? _ _ (hHeld.2.1))).trans (hHeld.2.1)
                              have HS2_ := (hb.cell (World.block_lt_of_cell? _ _ (hHeld.2.2.1))).trans (hHeld.2.2.1)
                              have HS3_ := (hb.cell (World.block_lt_of_cell? _ _ (hHeld.2.2.2.1))).trans (hHeld.2.2.2.1)
                              have HS4_ := (hb.cell (World.block_lt_of_cell? _ _ (hHeld.2.2.2.2.1))).trans (hHeld.2.2.2.2.1)
                              have HS5_ := (hb.cell (World.block_lt_of_cell? _ _ (hHeld.2.2.2.2.2.1))).trans (hHeld.2.2.2.2.2.1)
                              have HS6_ := (hb.cell (World.block_lt_of_cell? _ _ (hHeld.2.2.2.2.2.2.1))).trans (hHeld.2.2.2.2.2.2.1)
                              have HS7_ := (hb.cell (World.block_lt_of_cell? _ _ (hHeld.2.2.2.2.2.2.2))).trans (hHeld.2.2.2.2.2.2.2)
                              refine ⟨_, rfl, ?_⟩
                              have n0_ := Aside0.mk (Kd.R_below (by (with_reducible repeat (first | apply Kd.R_alloc | apply Kd.R_drewN | apply Kd.R_drew)); exact HO_10.out) hb)
                              have n1_ := Aside0.mk (Kd.R_below (by (with_reducible repeat (first | apply Kd.R_alloc | apply Kd.R_drewN | apply Kd.R_drew)); exact HO_12.out) hb)
                              have n2_ := Aside0.mk (Kd.R_below (by (with_reducible repeat (first | apply Kd.R_alloc | apply Kd.R_drewN | apply Kd.R_drew)); exact HO_13.out) hb)
                              have n3_ := Aside0.mk (Kd.R_below (by (with_reducible repeat (first | apply Kd.R_alloc | apply Kd.R_drewN | apply Kd.R_drew)); exact HO325.out) hb)
                              have n4_ := Aside0.mk (Kd.R_below (by (with_reducible repeat (first | apply Kd.R_alloc | apply Kd.R_drewN | apply Kd.R_drew)); exact HO333.out) hb)
                              have n5_ := Aside0.mk (blk_below (g := gb305) (o := .cells #[.int .u8 a0_0, .int .u8 a0_1, .int .u8 a0_2] 26 (0, 0)) (by (with_reducible repeat (first | refine blk_drewN ?_ _ | refine blk_drew ?_ | refine blk_alloc ?_ _)); exact BK305.out) hb)
                              have n6_ := Aside0.mk (blk_below (g := gb309) (o := .cells #[.int .i64 t306, .int .i64 t307, .int .i64 t308] 23 (0, 0)) (by (with_reducible repeat (first | refine blk_drewN ?_ _ | refine blk_drew ?_ | refine blk_alloc ?_ _)); exact BK309.out) hb)
                              have n7_ := Aside0.mk (Kd.C_below (by repeat (first | (with_reducible exact HR330.out) | (with_reducible refine Kd.C_alloc ?_ _) | (with_reducible refine Kd.C_drewN ?_ _) | (with_reducible refine Kd.C_drew ?_) | exact HR330.out)) hb)
                              have n8_ := Aside0.mk (below_step (by repeat (first | (with_reducible first | exact HB.out | apply below_alloc | apply pw_below_drewN | apply below_drew1 | refine below_set ?_ GE305.out | refine below_set ?_ GE309.out) | exact HB.out)) hb)
                              clear HO_10
                              clear HO_12
                              clear HO_13
                              clear HO325
                              clear HO333
                              clear BK305
                              clear BK309
                              clear HR330
                              clear HB
                              have HO_10 := n0_
                              have HO_12 := n1_
                              have HO_13 := n2_
                              have HO325 := n3_
                              have HO333 := n4_
                              have BK305 := n5_
                              have BK309 := n6_
                              have HR330 := n7_
                              have HB := n8_
                              clear n0_ n1_ n2_ n3_ n4_ n5_ n6_ n7_ n8_
                              (try clear hb)
                              (try clear hb2)
                              (try clear hk)
                              (try clear hi)
                              obtain ⟨Ao60, co60, eo60⟩ := Kd.R_slice HO325.out
                              (first | subst eo60 | (injection eo60 with f1_ f2_ f3_; have f4_ := f1_.symm; have f5_ := f3_.symm; clear f1_ f2_ f3_; subst f4_; subst f5_))
                              obtain ⟨Ao61, co61, eo61⟩ := Kd.R_slice HO333.out
                              (first | subst eo61 | (injection eo61 with f1_ f2_ f3_; have f4_ := f1_.symm; have f5_ := f3_.symm; clear f1_ f2_ f3_; subst f4_; subst f5_))
                              refine hK.out _ _ ⟨HS0_, HS1_, HS2_, HS3_, HS4_, HS5_, HS6_, HS7_⟩ (fun hHeld => ?_)
                              clear hK K
                              refine norm_ (a' := ?_) ?_ ?_
                              rotate_left
                              · show Act.put _ (some 79) _ = _
                                simp only [Act.put, List.setIfInBounds_toArray, List.set_cons_zero, List.set_cons_succ, i64_w, i32_w]
                                rfl
                              refine pure_ (i := 1) (N := some 80) (v := ?_) (a' := ?_) #[true, true, false, false, false, false, false, false, false, false, false, false, false, false, false, false, false, false, false, false, false, false, false, false, false, false, false, false, false, false, false, false] rfl rfl (any_of HT_.out (by kernel_rfl)) (fun _ _ _ h => h) (Or.inl ⟨by rfl, ?_⟩) ?_ ?_
                              rotate_left
                              · intro w'
                                go_simp
                                with_reducible rfl
                              rotate_left
                              · simp only [Act.put, List.setIfInBounds_toArray, List.set_cons_zero, List.set_cons_succ, i64_w, i32_w]
                                rfl
                              refine pure_ (i := 2) (N := some 81) (v := ?_) (a' := ?_) #[true, true, true, false, false, false, false, false, false, false, false, false, false, false, false, false, false, false, false, false, false, false, false, false, false, false, false, false, false, false, false, false] rfl rfl (any_of HT_.out (by kernel_rfl)) (fun _ _ _ h => h) (Or.inl ⟨by rfl, ?_⟩) ?_ ?_
                              rotate_left
                              · intro w'
                                go_simp
                                with_reducible rfl
                              rotate_left
                              · simp only [Act.put, List.setIfInBounds_toArray, List.set_cons_zero, List.set_cons_succ, i64_w, i32_w]
                                rfl
                              refine pure_ (i := 3) (N := some 82) (v := ?_) (a' := ?_) #[true, true, true, true, false, false, false, false, false, false, false, false, false, false, false, false, false, false, false, false, false, false, false, false, false, false, false, false, false, false, false, false] rfl rfl (any_of HT_.out (by kernel_rfl)) (fun _ _ _ h => h) (Or.inl ⟨by rfl, ?_⟩) ?_ ?_
                              rotate_left
                              · intro w'
                                go_simp
                                with_reducible rfl
                              rotate_left
                              · simp only [Act.put, List.setIfInBounds_toArray, List.set_cons_zero, List.set_cons_succ, i64_w, i32_w]
                                rfl
                              refine pure_ (i := 4) (N := some 83) (v := ?_) (a' := ?_) #[true, true, true, true, true, false, false, false, false, false, false, false, false, false, false, false, false, false, false, false, false, false, false, false, false, false, false, false, false, false, false, false] rfl rfl (any_of HT_.out (by kernel_rfl)) (fun _ _ _ h => h) (Or.inl ⟨by rfl, ?_⟩) ?_ ?_
                              rotate_left
                              · intro w'
                                go_simp
                                with_reducible rfl
                              rotate_left
                              · simp only [Act.put, List.setIfInBounds_toArray, List.set_cons_zero, List.set_cons_succ, i64_w, i32_w]
                                rfl
                              refine pure_ (i := 5) (N := some 84) (v := ?_) (a' := ?_) #[true, true, true, true, true, true, false, false, false, false, false, false, false, false, false, false, false, false, false, false, false, false, false, false, false, false, false, false, false, false, false, false] rfl rfl (any_of HT_.out (by kernel_rfl)) (fun _ _ _ h => h) (Or.inl ⟨by rfl, ?_⟩) ?_ ?_
                              rotate_left
                              · intro w'
                                go_simp
                                with_reducible rfl
                              rotate_left
                              · simp only [Act.put, List.setIfInBounds_toArray, List.set_cons_zero, List.set_cons_succ, i64_w, i32_w]
                                rfl
                              refine pure_ (i := 6) (N := some 85) (v := ?_) (a' := ?_) #[true, true, true, true, true, true, true, false, false, false, false, false, false, false, false, false, false, false, false, false, false, false, false, false, false, false, false, false, false, false, false, false] rfl rfl (any_of HT_.out (by kernel_rfl)) (fun _ _ _ h => h) (Or.inl ⟨by rfl, ?_⟩) ?_ ?_
                              rotate_left
                              · intro w'
                                go_simp
                                with_reducible rfl
                              rotate_left
                              · simp only [Act.put, List.setIfInBounds_toArray, List.set_cons_zero, List.set_cons_succ, i64_w, i32_w]
                                rfl
                              refine pure_ (i := 7) (N := some 86) (v := ?_) (a' := ?_) #[true, true, true, true, true, true, true, true, false, false, false, false, false, false, false, false, false, false, false, false, false, false, false, false, false, false, false, false, false, false, false, false] rfl rfl (any_of HT_.out (by kernel_rfl)) (fun _ _ _ h => h) (Or.inl ⟨by rfl, ?_⟩) ?_ ?_
                              rotate_left
                              · intro w'
                                go_simp
                                with_reducible rfl
                              rotate_left
                              · simp only [Act.put, List.setIfInBounds_toArray, List.set_cons_zero, List.set_cons_succ, i64_w, i32_w]
                                rfl
                              refine pure_ (i := 8) (N := some 87) (v := ?_) (a' := ?_) #[true, true, true, true, true, true, true, true, true, false, false, false, false, false, false, false, false, false, false, false, false, false, false, false, false, false, false, false, false, false, false, false] rfl rfl (any_of HT_.out (by kernel_rfl)) (fun _ _ _ h => h) (Or.inl ⟨by rfl, ?_⟩) ?_ ?_
                              rotate_left
                              · intro w'
                                go_simp
                                with_reducible rfl
                              rotate_left
                              · simp only [Act.put, List.setIfInBounds_toArray, List.set_cons_zero, List.set_cons_succ, i64_w, i32_w]
                                rfl
                              refine pure_ (i := 9) (N := some 88) (v := ?_) (a' := ?_) #[true, true, true, true, true, true, true, true, true, true, false, false, false, false, false, false, false, false, false, false, false, false, false, false, false, false, false, false, false, false, false, false] rfl rfl (any_of HT_.out (by kernel_rfl)) (fun _ _ _ h => h) (Or.inl ⟨by rfl, ?_⟩) ?_ ?_
                              rotate_left
                              · intro w'
                                go_simp
                                with_reducible rfl
                              rotate_left
                              · simp only [Act.put, List.setIfInBounds_toArray, List.set_cons_zero, List.set_cons_succ, i64_w, i32_w]
                                rfl
                              refine pure_ (i := 10) (N := some 89) (v := ?_) (a' := ?_) #[true, true, true, true, true, true, true, true, true, true, true, false, false, false, false, false, false, false, false, false, false, false, false, false, false, false, false, false, false, false, false, false] rfl rfl (any_of HT_.out (by kernel_rfl)) (fun _ _ _ h => h) (Or.inl ⟨by rfl, ?_⟩) ?_ ?_
                              rotate_left
                              · intro w'
                                go_simp
                                with_reducible rfl
                              rotate_left
                              · simp only [Act.put, List.setIfInBounds_toArray, List.set_cons_zero, List.set_cons_succ, i64_w, i32_w]
                                rfl
                              refine pure_ (i := 11) (N := some 90) (v := ?_) (a' := ?_) #[true, true, true, true, true, true, true, true, true, true, true, true, false, false, false, false, false, false, false, false, false, false, false, false, false, false, false, false, false, false, false, false] rfl rfl (any_of HT_.out (by kernel_rfl)) (fun _ _ _ h => h) (Or.inl ⟨by rfl, ?_⟩) ?_ ?_
                              rotate_left
                              · intro w'
                                go_simp
                                with_reducible rfl
                              rotate_left
                              · simp only [Act.put, List.setIfInBounds_toArray, List.set_cons_zero, List.set_cons_succ, i64_w, i32_w]
                                rfl
                              refine pure_ (i := 12) (N := some 91) (v := ?_) (a' := ?_) #[true, true, true, true, true, true, true, true, true, true, true, true, true, false, false, false, false, false, false, false, false, false, false, false, false, false, false, false, false, false, false, false] rfl rfl (any_of HT_.out (by kernel_rfl)) (fun _ _ _ h => h) (Or.inl ⟨by rfl, ?_⟩) ?_ ?_
                              rotate_left
                              · intro w'
                                go_simp
                                with_reducible rfl
                              rotate_left
                              · simp only [Act.put, List.setIfInBounds_toArray, List.set_cons_zero, List.set_cons_succ, i64_w, i32_w]
                                rfl
                              refine pure_ (i := 13) (N := some 92) (v := ?_) (a' := ?_) #[true, true, true, true, true, true, true, true, true, true, true, true, true, true, false, false, false, false, false, false, false, false, false, false, false, false, false, false, false, false, false, false] rfl rfl (any_of HT_.out (by kernel_rfl)) (fun _ _ _ h => h) (Or.inl ⟨by rfl, ?_⟩) ?_ ?_
                              rotate_left
                              · intro w'
                                go_simp
                                with_reducible rfl
                              rotate_left
                              · simp only [Act.put, List.setIfInBounds_toArray, List.set_cons_zero, List.set_cons_succ, i64_w, i32_w]
                                rfl
                              refine pure_ (i := 14) (N := some 93) (v := ?_) (a' := ?_) #[true, true, true, true, true, true, true, true, true, true, true, true, true, true, true, false, false, false, false, false, false, false, false, false, false, false, false, false, false, false, false, false] rfl rfl (any_of HT_.out (by kernel_rfl)) (fun _ _ _ h => h) (Or.inl ⟨by rfl, ?_⟩) ?_ ?_
                              rotate_left
                              · intro w'
                                go_simp
                                with_reducible rfl
                              rotate_left
                              · simp only [Act.put, List.setIfInBounds_toArray, List.set_cons_zero, List.set_cons_succ, i64_w, i32_w]
                                rfl
                              refine pure_ (i := 15) (N := some 94) (v := ?_) (a' := ?_) #[true, true, true, true, true, true, true, true, true, true, true, true, true, true, true, true, false, false, false, false, false, false, false, false, false, false, false, false, false, false, false, false] rfl rfl (any_of HT_.out (by kernel_rfl)) (fun _ _ _ h => h) (Or.inl ⟨by rfl, ?_⟩) ?_ ?_
                              rotate_left
                              · intro w'
                                go_simp
                                with_reducible rfl
                              rotate_left
                              · simp only [Act.put, List.setIfInBounds_toArray, List.set_cons_zero, List.set_cons_succ, i64_w, i32_w]
                                rfl
                              refine pure_ (i := 16) (N := some 95) (v := ?_) (a' := ?_) #[true, true, true, true, true, true, true, true, true, true, true, true, true, true, true, true, true, false, false, false, false, false, false, false, false, false, false, false, false, false, false, false] rfl rfl (any_of HT_.out (by kernel_rfl)) (fun _ _ _ h => h) (Or.inl ⟨by rfl, ?_⟩) ?_ ?_
                              rotate_left
                              · intro w'
                                go_simp
                                with_reducible rfl
                              rotate_left
                              · simp only [Act.put, List.setIfInBounds_toArray, List.set_cons_zero, List.set_cons_succ, i64_w, i32_w]
                                rfl
                              refine pure_ (i := 17) (N := some 96) (v := ?_) (a' := ?_) #[true, true, true, true, true, true, true, true, true, true, true, true, true, true, true, true, true, true, false, false, false, false, false, false, false, false, false, false, false, false, false, false] rfl rfl (any_of HT_.out (by kernel_rfl)) (fun _ _ _ h => h) (Or.inl ⟨by rfl, ?_⟩) ?_ ?_
                              rotate_left
                              · intro w'
                                go_simp
                                with_reducible rfl
                              rotate_left
                              · simp only [Act.put, List.setIfInBounds_toArray, List.set_cons_zero, List.set_cons_succ, i64_w, i32_w]
                                rfl
                              refine pure_ (i := 18) (N := some 97) (v := ?_) (a' := ?_) #[true, true, true, true, true, true, true, true, true, true, true, true, true, true, true, true, true, true, true, false, false, false, false, false, false, false, false, false, false, false, false, false] rfl rfl (any_of HT_.out (by kernel_rfl)) (fun _ _ _ h => h) (Or.inl ⟨by rfl, ?_⟩) ?_ ?_
                              rotate_left
                              · intro w'
                                go_simp
                                with_reducible rfl
                              rotate_left
                              · simp only [Act.put, List.setIfInBounds_toArray, List.set_cons_zero, List.set_cons_succ, i64_w, i32_w]
                                rfl
                              refine pure_ (i := 19) (N := some 98) (v := ?_) (a' := ?_) #[true, true, true, true, true, true, true, true, true, true, true, true, true, true, true, true, true, true, true, true, false, false, false, false, false, false, false, false, false, false, false, false] rfl rfl (any_of HT_.out (by kernel_rfl)) (fun _ _ _ h => h) (Or.inl ⟨by rfl, ?_⟩) ?_ ?_
                              rotate_left
                              · intro w'
                                go_simp
                                with_reducible rfl
                              rotate_left
                              · simp only [Act.put, List.setIfInBounds_toArray, List.set_cons_zero, List.set_cons_succ, i64_w, i32_w]
                                rfl
                              refine pure_ (i := 20) (N := some 99) (v := ?_) (a' := ?_) #[true, true, true, true, true, true, true, true, true, true, true, true, true, true, true, true, true, true, true, true, true, false, false, false, false, false, false, false, false, false, false, false] rfl rfl (any_of HT_.out (by kernel_rfl)) (fun _ _ _ h => h) (Or.inl ⟨by rfl, ?_⟩) ?_ ?_
                              rotate_left
                              · intro w'
                                go_simp
                                with_reducible rfl
                              rotate_left
                              · simp only [Act.put, List.setIfInBounds_toArray, List.set_cons_zero, List.set_cons_succ, i64_w, i32_w]
                                rfl
                              refine pure_ (i := 21) (N := some 100) (v := ?_) (a' := ?_) #[true, true, true, true, true, true, true, true, true, true, true, true, true, true, true, true, true, true, true, true, true, true, false, false, false, false, false, false, false, false, false, false] rfl rfl (any_of HT_.out (by kernel_rfl)) (fun _ _ _ h => h) (Or.inl ⟨by rfl, ?_⟩) ?_ ?_
                              rotate_left
                              · intro w'
                                go_simp
                                with_reducible rfl
                              rotate_left
                              · simp only [Act.put, List.setIfInBounds_toArray, List.set_cons_zero, List.set_cons_succ, i64_w, i32_w]
                                rfl
                              refine pure_ (i := 22) (N := some 101) (v := ?_) (a' := ?_) #[true, true, true, true, true, true, true, true, true, true, true, true, true, true, true, true, true, true, true, true, true, true, true, false, false, false, false, false, false, false, false, false] rfl rfl (any_of HT_.out (by kernel_rfl)) (fun _ _ _ h => h) (Or.inl ⟨by rfl, ?_⟩) ?_ ?_
                              rotate_left
                              · intro w'
                                go_simp
                                with_reducible rfl
                              rotate_left
                              · simp only [Act.put, List.setIfInBounds_toArray, List.set_cons_zero, List.set_cons_succ, i64_w, i32_w]
                                rfl
                              refine pure_ (i := 23) (N := some 102) (v := ?_) (a' := ?_) #[true, true, true, true, true, true, true, true, true, true, true, true, true, true, true, true, true, true, true, true, true, true, true, true, false, false, false, false, false, false, false, false] rfl rfl (any_of HT_.out (by kernel_rfl)) (fun _ _ _ h => h) (Or.inl ⟨by rfl, ?_⟩) ?_ ?_
                              rotate_left
                              · intro w'
                                go_simp
                                with_reducible rfl
                              rotate_left
                              · simp only [Act.put, List.setIfInBounds_toArray, List.set_cons_zero, List.set_cons_succ, i64_w, i32_w]
                                rfl
                              refine pure_ (i := 24) (N := some 103) (v := ?_) (a' := ?_) #[true, true, true, true, true, true, true, true, true, true, true, true, true, true, true, true, true, true, true, true, true, true, true, true, true, false, false, false, false, false, false, false] rfl rfl (any_of HT_.out (by kernel_rfl)) (fun _ _ _ h => h) (Or.inl ⟨by rfl, ?_⟩) ?_ ?_
                              rotate_left
                              · intro w'
                                go_simp
                                with_reducible rfl
                              rotate_left
                              · simp only [Act.put, List.setIfInBounds_toArray, List.set_cons_zero, List.set_cons_succ, i64_w, i32_w]
                                rfl
                              refine pure_ (i := 26) (N := some 105) (v := ?_) (a' := ?_) #[true, true, true, true, true, true, true, true, true, true, true, true, true, true, true, true, true, true, true, true, true, true, true, true, true, false, true, false, false, false, false, false] rfl rfl (any_of HT_.out (by kernel_rfl)) (fun _ _ _ h => h) (Or.inl ⟨by rfl, ?_⟩) ?_ ?_
                              rotate_left
                              · intro w'
                                go_simp
                                with_reducible rfl
                              rotate_left
                              · simp only [Act.put, List.setIfInBounds_toArray, List.set_cons_zero, List.set_cons_succ, i64_w, i32_w]
                                rfl
                              refine pure_ (i := 27) (N := some 106) (v := ?_) (a' := ?_) #[true, true, true, true, true, true, true, true, true, true, true, true, true, true, true, true, true, true, true, true, true, true, true, true, true, false, true, true, false, false, false, false] rfl rfl (any_of HT_.out (by kernel_rfl)) (fun _ _ _ h => h) (Or.inl ⟨by rfl, ?_⟩) ?_ ?_
                              rotate_left
                              · intro w'
                                go_simp
                                with_reducible rfl
                              rotate_left
                              · simp only [Act.put, List.setIfInBounds_toArray, List.set_cons_zero, List.set_cons_succ, i64_w, i32_w]
                                rfl
                              refine take_ (i := 25) (N := some 104) (v := ?_) (a' := ?_) #[true, true, true, true, true, true, true, true, true, true, true, true, true, true, true, true, true, true, true, true, true, true, true, true, true, true, true, true, false, false, false, false] rfl rfl (take_ofW HT_.out HW_.out (by kernel_rfl)) (fun _ _ _ h => h) (Or.inl ⟨by rfl, ?_⟩) hHeld ?_ ?_
                              rotate_left
                              · rintro w' ⟨s0, s1, s2, s3, s4, s5, s6, s7⟩
                                go_simp
                                with_reducible rfl
                              rotate_left
                              · simp only [Act.put, List.setIfInBounds_toArray, List.set_cons_zero, List.set_cons_succ, i64_w, i32_w]
                                rfl
                              refine take_ (i := 28) (N := some 107) (v := ?_) (a' := ?_) #[true, true, true, true, true, true, true, true, true, true, true, true, true, true, true, true, true, true, true, true, true, true, true, true, true, true, true, true, true, false, false, false] rfl rfl (take_ofW HT_.out HW_.out (by kernel_rfl)) (fun _ _ _ h => h) (Or.inl ⟨by rfl, ?_⟩) hHeld ?_ ?_
                              rotate_left
                              · rintro w' ⟨s0, s1, s2, s3, s4, s5, s6, s7⟩
                                go_simp
                                with_reducible rfl
                              rotate_left
                              · simp only [Act.put, List.setIfInBounds_toArray, List.set_cons_zero, List.set_cons_succ, i64_w, i32_w]
                                rfl
                              refine pure_ (i := 29) (N := some 108) (v := ?_) (a' := ?_) #[true, true, true, true, true, true, true, true, true, true, true, true, true, true, true, true, true, true, true, true, true, true, true, true, true, true, true, true, true, true, false, false] rfl rfl (any_of HT_.out (by kernel_rfl)) (fun _ _ _ h => h) (Or.inl ⟨by rfl, ?_⟩) ?_ ?_
                              rotate_left
                              · intro w'
                                go_simp
                                with_reducible rfl
                              rotate_left
                              · simp only [Act.put, List.setIfInBounds_toArray, List.set_cons_zero, List.set_cons_succ, i64_w, i32_w]
                                rfl
                              refine pure_ (i := 30) (N := some 109) (v := ?_) (a' := ?_) #[true, true, true, true, true, true, true, true, true, true, true, true, true, true, true, true, true, true, true, true, true, true, true, true, true, true, true, true, true, true, true, false] rfl rfl (any_of HT_.out (by kernel_rfl)) (fun _ _ _ h => h) (Or.inl ⟨by rfl, ?_⟩) ?_ ?_
                              rotate_left
                              · intro w'
                                go_simp
                                with_reducible rfl
                              rotate_left
                              · simp only [Act.put, List.setIfInBounds_toArray, List.set_cons_zero, List.set_cons_succ, i64_w, i32_w]
                                rfl
                              refine pure_ (i := 31) (N := some 8) (v := ?_) (a' := ?_) #[true, true, true, true, true, true, true, true, true, true, true, true, true, true, true, true, true, true, true, true, true, true, true, true, true, true, true, true, true, true, true, true] rfl rfl (any_of HT_.out (by kernel_rfl)) (fun _ _ _ h => h) (Or.inl ⟨by rfl, ?_⟩) ?_ ?_
                              rotate_left
                              · intro w'
                                go_simp
                                with_reducible rfl
                              rotate_left
                              · simp only [Act.put, List.setIfInBounds_toArray, List.set_cons_zero, List.set_cons_succ, i64_w, i32_w]
                                rfl
                              refine done_ (done_of HT_.out (by kernel_rfl)) ?_
                              try go_wp2
                              go_ret
                              exact ⟨by first | rfl | (simp [errW_none, errW_some] <;> rfl) | (simp only [← hji37]; first | rfl | (simp [errW_none, errW_some] <;> rfl)) | (simp [*, errW_none, errW_some] <;> rfl), by repeat (first | (with_reducible first | exact HB.out | apply below_alloc | apply pw_below_drewN | apply below_drew1 | refine below_set ?_ GE305.out | refine below_set ?_ GE309.out) | exact HB.out)⟩
                            · rw [if_neg c49] at H
                              exact absurd H (by simp)
                          · rw [if_neg c48] at H
                            exact absurd H (by simp)
                        · rw [if_neg c47] at H
                          exact absurd H (by simp)
                      · rw [if_neg c46] at H
                        exact absurd H (by simp)
                    · rw [if_neg c45] at H
                      exact absurd H (by simp)
                  · rw [if_neg c44] at H
                    exact absurd H (by simp)
                · replace c43 := Bool.eq_false_iff.mpr c43
                  subst c43
                  have H1 : (none) = some r := by rw [if_neg (show ¬ (false = true) by decide)] at H; exact H
                  clear H
                  have H := H1
                  clear H1
                  exact absurd H (by simp)
              · rw [if_neg c40] at H
                exact absurd H (by simp)
            · rw [if_neg c39] at H
              exact absurd H (by simp)
          · rw [if_neg c38] at H
            exact absurd H (by simp)

end Go.Proofs.Ytjdkfdcaicdenaa.F
