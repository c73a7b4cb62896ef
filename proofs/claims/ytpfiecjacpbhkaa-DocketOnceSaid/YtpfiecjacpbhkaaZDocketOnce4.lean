/- Part 4 of 6 of the proof of DocketOnce: texts of this claim put one behind the other by a program; each begins with its own words. -/
import Derived.Maps.Own
import Derived.Maps.OwnOps
import Derived.Maps.Views
import Derived.Test.YtpfiecjacpbhkaaZDocketOnce3
/- What the Go functions named below come to, each told as_ a Lean function ('.f'), with the proof ('.calls'): no condition beyond those that each theorem states. Written by a program of this session's over the translation. -/
namespace Go.Proofs.Ytpfiecjacpbhkaa.D
open Go.RowKit Go.Proofs.YtpfiecjacpbhkaaW.PrintWords Go.Proofs.YtpfiecjacpbhkaaW.PrintLast Go.Proofs.YtpfiecjacpbhkaaW.PrintMore
attribute [local go_sem] max2_int min2_int max_two min_two max_three min_three max_four min_four   -- for this text's walks alone
set_option linter.unusedVariables false
set_option linter.unusedSimpArgs false

/-! ### docket_Play: function 29 -/
def docket_Play.l0 : Nat → List (S52) → List (S47) → Int → Int → Int → Int → Int → List Int → List (S50) → Option (Int × Int × Int × List Int × (List (S50)) × (List (S52)) × Int × Int)
 | 0, _, _, _, _, _, _, _, _, _ => none
 | k + 1, x12, x28, x29, x30, x189000, x189001, x189002, x189003, x189004 => if x30 < x29 then (if 0 ≤ x30 then (if x30 < (x28.length : Int) then ((docket_File.f k x189000 x189001 x189002 x189003 x189004 ((rd_T47 x28 x30).f0) ((rd_T47 x28 x30).f1) ((rd_T47 x28 x30).f2) ((rd_T47 x28 x30).f3)).bind fun bt191 => (if bt191.2.2.2.2.2.2 = 0 then (if x12.length + bt191.2.2.2.2.2.1.length < 5864062014805 then (docket_Play.l0 k (x12 ++ bt191.2.2.2.2.2.1) x28 x29 (wrap64 (x30 + 1)) bt191.1 bt191.2.1 bt191.2.2.1 bt191.2.2.2.1 bt191.2.2.2.2.1) else (none)) else (some (0, 0, 0, ([] : List Int), ([] : List (S50)), ([] : List (S52)), x30, bt191.2.2.2.2.2.2)))) else (none)) else (none)) else (some (x189000, x189001, x189002, x189003, x189004, x12, (-1), 0))
def docket_Play.f (k : Nat) (a0 : Int) (a1_0 : Int) (a1_1 : Int) (l1_2 : List Int) (l2 : List (S47)) : Option (Int × Int × Int × List Int × (List (S50)) × (List (S52)) × Int × Int) := (docket_New.f k a0 a1_0 a1_1 l1_2).bind fun bt178 => (if bt178.2.2.2.2.2 = 0 then (docket_Play.l0 k ([] : List (S52)) l2 (l2.length : Int) 0 bt178.1 bt178.2.1 bt178.2.2.1 bt178.2.2.2.1 bt178.2.2.2.2.1) else (some (0, 0, 0, ([] : List Int), ([] : List (S50)), ([] : List (S52)), (-1), bt178.2.2.2.2.2)))
theorem docket_Play.mono_l : ∀ k, (∀ y0 y1 y2 y3 y4 y5 y6 y7 y8, LeO (docket_Play.l0 k y0 y1 y2 y3 y4 y5 y6 y7 y8) (docket_Play.l0 (k + 1) y0 y1 y2 y3 y4 y5 y6 y7 y8))
 | 0 => fun _ _ _ _ _ _ _ _ _ r h => by simp [docket_Play.l0] at h
 | k + 1 => by
  have ih0 := docket_Play.mono_l k
  ·intro y0 y1 y2 y3 y4 y5 y6 y7 y8
   unfold docket_Play.l0
   repeat' first
   | (with_reducible exact ih0 _ _ _ _ _ _ _ _ _)
   | (with_reducible exact docket_File.mono _ _ _ _ _ _ _ _ _ _)
   | (with_reducible exact docket_New.mono _ _ _ _ _)
   | (with_reducible exact LeO.refl _)
   | (with_reducible exact LeO.none _)
   | (with_reducible refine LeO.ite ?_ ?_)
   | (with_reducible refine LeO.bind ?_ (fun _ => ?_))
   | exact ih0 _ _ _ _ _ _ _ _ _
   | exact docket_File.mono _ _ _ _ _ _ _ _ _ _
   | exact docket_New.mono _ _ _ _ _
   | exact LeO.none _
   | refine LeO.ite ?_ ?_
   | refine LeO.bind ?_ (fun _ => ?_)
theorem docket_Play.mono : ∀ a0 a1 a2 a3 a4 k, LeO (docket_Play.f k a0 a1 a2 a3 a4) (docket_Play.f (k + 1) a0 a1 a2 a3 a4) := by
 intro a0 a1 a2 a3 a4 k
 have ih0 := docket_Play.mono_l k
 unfold docket_Play.f
 repeat' first
   | (with_reducible exact ih0 _ _ _ _ _ _ _ _ _)
   | (with_reducible exact docket_File.mono _ _ _ _ _ _ _ _ _ _)
   | (with_reducible exact docket_New.mono _ _ _ _ _)
   | (with_reducible exact LeO.refl _)
   | (with_reducible exact LeO.none _)
   | (with_reducible refine LeO.ite ?_ ?_)
   | (with_reducible refine LeO.bind ?_ (fun _ => ?_))
   | exact ih0 _ _ _ _ _ _ _ _ _
   | exact docket_File.mono _ _ _ _ _ _ _ _ _ _
   | exact docket_New.mono _ _ _ _ _
   | exact LeO.none _
   | refine LeO.ite ?_ ?_
   | refine LeO.bind ?_ (fun _ => ?_)
set_option maxHeartbeats 8000000 in
set_option maxRecDepth 100000 in
theorem docket_Play.calls (k : Nat) (a0 : Int) (a1_0 : Int) (a1_1 : Int) (A1_2 : Option Addr) (c1_2 : Nat) (l1_2 : List Int) (A2 : Option Addr) (c2 : Nat) (l2 : List (S47)) (r1 : Int) (r2 : Int) (r3 : Int) (r4 : List Int) (r5 : List (S50)) (r6 : List (S52)) (r7 : Int) (r8 : Int) (w : World) (hr1_2 : Kd.C (Kd.int .i64) w A1_2 l1_2.length l1_2) (hc1_2 : l1_2.length ≤ c1_2) (hr2 : Kd.C k47 w A2 l2.length l2) (hc2 : l2.length ≤ c2) (h : docket_Play.f k a0 a1_0 a1_1 l1_2 l2 = some (r1, r2, r3, r4, r5, r6, r7, r8)) :
  Calls Try.prog 29 #[.int .i64 a0, .agg #[.int .i64 a1_0, .int .i64 a1_1, .slice A1_2 l1_2.length c1_2], .slice A2 l2.length c2] w fun e w' => ∃ v3_ v4_ v5_ : Value, e = .returned (.tuple #[.agg #[.int .i64 r1, .int .i64 r2, .int .i64 r3, v3_, v4_], v5_, .int .i64 r7, .int .i64 r8]) ∧ Kd.R (Kd.int .i64) 3 w' w.heap.size (fun _ => True) v3_ r4 ∧ Kd.R k50 50 w' w.heap.size (fun _ => True) v4_ r5 ∧ Kd.R k52 52 w' w.heap.size (fun _ => True) v5_ r6 ∧ Below w.heap.size w w' := by
 have hu27 := Try.underlying27
 have hu30 := Try.underlying30
 have hu47 := Try.underlying47
 have HR1_2 := Aside0.mk hr1_2
 have HC1_2 := Aside0.mk hc1_2
 clear hr1_2 hc1_2
 have HR2 := Aside0.mk hr2
 have HC2 := Aside0.mk hc2
 clear hr2 hc2
 have HB := Aside0.mk (Below.refl w.heap.size w)
 have H : ((docket_New.f k a0 a1_0 a1_1 l1_2).bind fun bt178 => (if bt178.2.2.2.2.2 = 0 then (docket_Play.l0 k ([] : List (S52)) l2 (l2.length : Int) 0 bt178.1 bt178.2.1 bt178.2.2.1 bt178.2.2.2.1 bt178.2.2.2.2.1) else (some (0, 0, 0, ([] : List Int), ([] : List (S50)), ([] : List (S52)), (-1), bt178.2.2.2.2.2)))) = some (r1, r2, r3, r4, r5, r6, r7, r8) := h
 clear h
 replace H := Option.bind_eq_some_iff.mp H
 obtain ⟨⟨t178, t179, t180, t181, t184, t187⟩, A40, H⟩ := H
 replace H : (if t187 = 0 then (docket_Play.l0 k ([] : List (S52)) l2 (l2.length : Int) 0 t178 t179 t180 t181 t184) else (some (0, 0, 0, ([] : List Int), ([] : List (S50)), ([] : List (S52)), (-1), t187))) = some (r1, r2, r3, r4, r5, r6, r7, r8) := H
 have A4 := Aside0.mk A40
 clear A40
 by_cases c5 : t187 = 0
 ·rw [if_pos c5] at H
  have c5b0 : (t187 == 0) = true := beq_iff_eq.mpr c5
  have c5b1 : (t187 != 0) = false := bne_eq_false_iff_eq.mpr c5
  clear c5
  have H' := Aside0.mk H
  clear H
  go_enter Try.func29, Try.ntmps29
  go_wp2_with (first | ((with_reducible refine gate_dst (N := 4) rfl ?_); refine box_event ?hg (N := 4) ?hd (cs := #[.int .i64 a1_0, .int .i64 a1_1, .slice A1_2 l1_2.length c1_2]) (t := 27) ?hr ?_; (case hd => rfl); (case hg => rfl); (case hr => first | (go_simp; done) | (go_simp; rfl)); intro gb176 hg w6 hbox hb; have n0_ := Aside0.mk (below_step (pB HB) hb); have n1_ := Aside0.mk (hbox); have n2_ := Aside0.mk ((by rw [hg]; exact (below_size (pB HB)) : w.heap.size ≤ gb176)); have n3_ := Aside0.mk ((by rw [hg]; exact (below_size (pB HB)) : w.heap.size ≤ gb176)); clear HB; have HB := n0_; have BK176 := n1_; have GW176 := n2_; have GE176 := n3_; clear n0_ n1_ n2_ n3_; clear hb hbox hg) | ((with_reducible refine gate_dst (N := 6) rfl ?_); refine box_event ?hg (N := 6) ?hd (cs := #[.int .i64 0, .int .i64 0, .int .i64 0, .slice none 0 0, .slice none 0 0]) (t := 30) ?hr ?_; (case hd => rfl); (case hg => rfl); (case hr => first | (go_simp; done) | (go_simp; rfl)); intro gb177 hg w7 hbox hb; have n0_ := bB BK176 hb; have n1_ := Aside0.mk (below_step (pB HB) hb); have n2_ := Aside0.mk (hbox); have n3_ := Aside0.mk ((by rw [hg]; exact (below_size (pB HB)) : w.heap.size ≤ gb177)); have n4_ := Aside0.mk ((by rw [hg]; exact (below_size (pB HB)) : w.heap.size ≤ gb177)); have n5_ := Aside0.mk ((by rw [hg]; exact Nat.ne_of_lt (blk_lt (g := gb176) (o := .cells #[.int .i64 a1_0, .int .i64 a1_1, .slice A1_2 l1_2.length c1_2] 27 (0, 0)) (by (with_reducible repeat (first | refine blk_drewN ?_ _ | refine blk_drew ?_ | refine blk_alloc ?_ _)); exact BK176.out)) : gb176 ≠ gb177)); have n6_ := Aside0.mk ((by rw [hg]; exact Nat.ne_of_gt (blk_lt (g := gb176) (o := .cells #[.int .i64 a1_0, .int .i64 a1_1, .slice A1_2 l1_2.length c1_2] 27 (0, 0)) (by (with_reducible repeat (first | refine blk_drewN ?_ _ | refine blk_drew ?_ | refine blk_alloc ?_ _)); exact BK176.out)) : gb177 ≠ gb176)); clear BK176; clear HB; have BK176 := n0_; have HB := n1_; have BK177 := n2_; have GW177 := n3_; have GE177 := n4_; have NB176_177 := n5_; have NB177_176 := n6_; clear n0_ n1_ n2_ n3_ n4_ n5_ n6_; clear hb hbox hg; have hnb8 := NB176_177.out; have hnc8 := NB177_176.out; obtain ⟨hcz9_0, hcz9_1, hcz9_2⟩ := cells3 BK176; obtain ⟨hfz9_0, hfz9_1, hfz9_2⟩ := frz3 BK176) | ((with_reducible refine gate_callee (f := 17) rfl ?_); refine goesL_ (some 21) rfl rfl Try.func17 (by kernel_rfl) rfl #[.int .i64 a0, .agg #[.int .i64 a1_0, .int .i64 a1_1, .slice A1_2 l1_2.length c1_2]] rfl (by (try simp only [List.map_toArray, List.map_cons, List.map_nil]); first | done | rfl | (simp only [List.length_drop, List.length_take]; rfl)) ?_; (with_reducible refine (docket_New.calls k a0 a1_0 a1_1 _ _ l1_2 t178 t179 t180 t181 t184 t187 _ ?side1 ?side2 A4.out).mono ?_); (case side1 => repeat (first | exact (Kd.C_below HR1_2.out HB.out) | (with_reducible refine Kd.C_alloc ?_ _) | (with_reducible refine Kd.C_drewN ?_ _) | (with_reducible refine Kd.C_drew ?_))); (case side2 => exact HC1_2.out); rintro e w10 ⟨v182, v185, rfl, ho0, ho1, hb⟩; refine ⟨_, rfl, ?_⟩; have n0_ := Aside0.mk (Kd.R_lower ho0 (below_size (pB HB))); have n1_ := Aside0.mk (Kd.R_lower ho1 (below_size (pB HB))); have n2_ := bB BK176 hb; have n3_ := bB BK177 hb; have n4_ := Aside0.mk (below_step (pB HB) hb); clear BK176; clear BK177; clear HB; have HO183 := n0_; have HO186 := n1_; have BK176 := n2_; have BK177 := n3_; have HB := n4_; clear n0_ n1_ n2_ n3_ n4_; (try clear hb); (try clear hb2); (try clear hk); (try clear hi); (try clear ho0); (try clear ho1)) | ((with_reducible refine gate_dst (N := 10) rfl ?_); refine box_event ?hg (N := 10) ?hd (cs := #[.int .i64 0, .int .i64 0, .int .i64 0, .slice none 0 0, .slice none 0 0]) (t := 30) ?hr ?_; (case hd => rfl); (case hg => rfl); (case hr => first | (go_simp; done) | (go_simp; rfl)); intro gb188 hg w11 hbox hb; have n0_ := rB HO183 hb; have n1_ := rB HO186 hb; have n2_ := bB BK176 hb; have n3_ := bB BK177 hb; have n4_ := Aside0.mk (below_step (pB HB) hb); have n5_ := Aside0.mk (hbox); have n6_ := Aside0.mk ((by rw [hg]; exact (below_size (pB HB)) : w.heap.size ≤ gb188)); have n7_ := Aside0.mk ((by rw [hg]; exact (below_size (pB HB)) : w.heap.size ≤ gb188)); have n8_ := Aside0.mk ((by rw [hg]; exact Nat.ne_of_lt (blk_lt (g := gb176) (o := .cells #[.int .i64 a1_0, .int .i64 a1_1, .slice A1_2 l1_2.length c1_2] 27 (0, 0)) (by (with_reducible repeat (first | refine blk_drewN ?_ _ | refine blk_drew ?_ | refine blk_alloc ?_ _)); exact BK176.out)) : gb176 ≠ gb188)); have n9_ := Aside0.mk ((by rw [hg]; exact Nat.ne_of_gt (blk_lt (g := gb176) (o := .cells #[.int .i64 a1_0, .int .i64 a1_1, .slice A1_2 l1_2.length c1_2] 27 (0, 0)) (by (with_reducible repeat (first | refine blk_drewN ?_ _ | refine blk_drew ?_ | refine blk_alloc ?_ _)); exact BK176.out)) : gb188 ≠ gb176)); have n10_ := Aside0.mk ((by rw [hg]; exact Nat.ne_of_lt (blk_lt (g := gb177) (o := .cells #[.int .i64 0, .int .i64 0, .int .i64 0, .slice none 0 0, .slice none 0 0] 30 (0, 0)) (by (with_reducible repeat (first | refine blk_drewN ?_ _ | refine blk_drew ?_ | refine blk_alloc ?_ _)); exact BK177.out)) : gb177 ≠ gb188)); have n11_ := Aside0.mk ((by rw [hg]; exact Nat.ne_of_gt (blk_lt (g := gb177) (o := .cells #[.int .i64 0, .int .i64 0, .int .i64 0, .slice none 0 0, .slice none 0 0] 30 (0, 0)) (by (with_reducible repeat (first | refine blk_drewN ?_ _ | refine blk_drew ?_ | refine blk_alloc ?_ _)); exact BK177.out)) : gb188 ≠ gb177)); clear HO183; clear HO186; clear BK176; clear BK177; clear HB; have HO183 := n0_; have HO186 := n1_; have BK176 := n2_; have BK177 := n3_; have HB := n4_; have BK188 := n5_; have GW188 := n6_; have GE188 := n7_; have NB176_188 := n8_; have NB188_176 := n9_; have NB177_188 := n10_; have NB188_177 := n11_; clear n0_ n1_ n2_ n3_ n4_ n5_ n6_ n7_ n8_ n9_ n10_ n11_; clear hb hbox hg; have hnb12 := NB188_176.out; have hnc12 := NB176_188.out; have hnb13 := NB188_177.out; have hnc13 := NB177_188.out; obtain ⟨hcz14_0, hcz14_1, hcz14_2, hcz14_3, hcz14_4⟩ := cells5 BK188; obtain ⟨hfz14_0, hfz14_1, hfz14_2, hfz14_3, hfz14_4⟩ := frz5 BK188; obtain ⟨Ao15, co15, eo15⟩ := Kd.R_slice HO183.out; subst eo15; obtain ⟨Ao16, co16, eo16⟩ := Kd.R_slice HO186.out; subst eo16))
  go_loopg [12, 30] k (fun kq v12 v30 w' => ∃ (x12_1 : List (S52)) (x30_1 : Int) (x178000_1 : Int) (x178001_1 : Int) (x178002_1 : Int) (x189000_1 : Int) (x189001_1 : Int) (x189002_1 : Int) (x189003_1 : List Int) (x189004_1 : List (S50)) (u189003 : Value) (u189004 : Value), v30 = .int .i64 x30_1 ∧ Aside0 (docket_Play.l0 kq x12_1 l2 (l2.length : Int) x30_1 x189000_1 x189001_1 x189002_1 x189003_1 x189004_1 = some (r1, r2, r3, r4, r5, r6, r7, r8)) ∧ Aside0 (kq ≤ k) ∧ Aside0 (Kd.R k52 52 w' w.heap.size (fun _ => True) v12 x12_1) ∧ Aside0 (Kd.R (Kd.int .i64) 3 w' w.heap.size (fun _ => True) u189003 x189003_1) ∧ Aside0 (Kd.R k50 50 w' w.heap.size (fun _ => True) u189004 x189004_1) ∧ Aside0 (w'.heap[gb176]? = some (.cells #[.int .i64 a1_0, .int .i64 a1_1, (.slice A1_2 l1_2.length c1_2)] 27 (0, 0))) ∧ Aside0 (w'.heap[gb177]? = some (.cells #[.int .i64 x178000_1, .int .i64 x178001_1, .int .i64 x178002_1, (.slice none 0 0), (.slice none 0 0)] 30 (0, 0))) ∧ Aside0 (w'.heap[gb188]? = some (.cells #[.int .i64 x189000_1, .int .i64 x189001_1, .int .i64 x189002_1, u189003, u189004] 30 (0, 0))) ∧ Aside0 (Below w.heap.size w w'))
  case atStart => exact ⟨(([] : List (S52))), (0), (0), (0), (0), (t178), (t179), (t180), (t181), (t184), (.slice Ao15 t181.length co15), (.slice Ao16 t184.length co16), (by first | rfl | (simp; done) | (simp [*]; done)), H', ⟨Nat.le_refl _⟩, ⟨by first | exact Kd.R_nil _ _ _ _ _ | exact Kd.N_nil _ _ _ _ _ | exact Kd.V_nil _ _ _ _ _ | exact Kd.Q_nil _ _ _ _ _ | exact Kd.S_nil _ _ _ _ _⟩, ⟨by (with_reducible repeat (first | apply Kd.R_alloc | apply Kd.R_drewN | apply Kd.R_drew)); exact Kd.R_mono (Kd.R_far (p := ⟨gb188, 4, none⟩) (Kd.R_far (p := ⟨gb188, 3, none⟩) (Kd.R_far (p := ⟨gb188, 2, none⟩) (Kd.R_far (p := ⟨gb188, 1, none⟩) (Kd.R_far (p := ⟨gb188, 0, none⟩) (Kd.R_types HO183.out BK188.out (by decide)) (fun _ hk => hk.2) (.int .i64 t178)) (fun _ hk => hk.2) (.int .i64 t179)) (fun _ hk => hk.2) (.int .i64 t180)) (fun _ hk => hk.2) (.slice Ao15 t181.length co15)) (fun _ hk => hk.2) (.slice Ao16 t184.length co16)) (fun _ hk => trivial)⟩, ⟨by (with_reducible repeat (first | apply Kd.R_alloc | apply Kd.R_drewN | apply Kd.R_drew)); exact Kd.R_mono (Kd.R_far (p := ⟨gb188, 4, none⟩) (Kd.R_far (p := ⟨gb188, 3, none⟩) (Kd.R_far (p := ⟨gb188, 2, none⟩) (Kd.R_far (p := ⟨gb188, 1, none⟩) (Kd.R_far (p := ⟨gb188, 0, none⟩) (Kd.R_types HO186.out BK188.out (by decide)) (fun _ hk => hk.2) (.int .i64 t178)) (fun _ hk => hk.2) (.int .i64 t179)) (fun _ hk => hk.2) (.int .i64 t180)) (fun _ hk => hk.2) (.slice Ao15 t181.length co15)) (fun _ hk => hk.2) (.slice Ao16 t184.length co16)) (fun _ hk => trivial)⟩, ⟨by (with_reducible repeat (first | refine blk_drewN ?_ _ | refine blk_drew ?_ | refine blk_alloc ?_ _)); refine blk_far ?_ NB176_188.out _; (with_reducible repeat (first | refine blk_drewN ?_ _ | refine blk_drew ?_ | refine blk_alloc ?_ _)); refine blk_far ?_ NB176_188.out _; (with_reducible repeat (first | refine blk_drewN ?_ _ | refine blk_drew ?_ | refine blk_alloc ?_ _)); refine blk_far ?_ NB176_188.out _; (with_reducible repeat (first | refine blk_drewN ?_ _ | refine blk_drew ?_ | refine blk_alloc ?_ _)); refine blk_far ?_ NB176_188.out _; (with_reducible repeat (first | refine blk_drewN ?_ _ | refine blk_drew ?_ | refine blk_alloc ?_ _)); refine blk_far ?_ NB176_188.out _; (with_reducible repeat (first | refine blk_drewN ?_ _ | refine blk_drew ?_ | refine blk_alloc ?_ _)); exact BK176.out⟩, ⟨by (with_reducible repeat (first | refine blk_drewN ?_ _ | refine blk_drew ?_ | refine blk_alloc ?_ _)); refine blk_far ?_ NB177_188.out _; (with_reducible repeat (first | refine blk_drewN ?_ _ | refine blk_drew ?_ | refine blk_alloc ?_ _)); refine blk_far ?_ NB177_188.out _; (with_reducible repeat (first | refine blk_drewN ?_ _ | refine blk_drew ?_ | refine blk_alloc ?_ _)); refine blk_far ?_ NB177_188.out _; (with_reducible repeat (first | refine blk_drewN ?_ _ | refine blk_drew ?_ | refine blk_alloc ?_ _)); refine blk_far ?_ NB177_188.out _; (with_reducible repeat (first | refine blk_drewN ?_ _ | refine blk_drew ?_ | refine blk_alloc ?_ _)); refine blk_far ?_ NB177_188.out _; (with_reducible repeat (first | refine blk_drewN ?_ _ | refine blk_drew ?_ | refine blk_alloc ?_ _)); exact BK177.out⟩, ⟨by (with_reducible repeat (first | refine blk_drewN ?_ _ | refine blk_drew ?_ | refine blk_alloc ?_ _)); refine blk_put (cs := #[.int .i64 t178, .int .i64 t179, .int .i64 t180, .slice Ao15 t181.length co15, .slice none 0 0]) ?_ 4 _ rfl; (with_reducible repeat (first | refine blk_drewN ?_ _ | refine blk_drew ?_ | refine blk_alloc ?_ _)); refine blk_put (cs := #[.int .i64 t178, .int .i64 t179, .int .i64 t180, .slice none 0 0, .slice none 0 0]) ?_ 3 _ rfl; (with_reducible repeat (first | refine blk_drewN ?_ _ | refine blk_drew ?_ | refine blk_alloc ?_ _)); refine blk_put (cs := #[.int .i64 t178, .int .i64 t179, .int .i64 0, .slice none 0 0, .slice none 0 0]) ?_ 2 _ rfl; (with_reducible repeat (first | refine blk_drewN ?_ _ | refine blk_drew ?_ | refine blk_alloc ?_ _)); refine blk_put (cs := #[.int .i64 t178, .int .i64 0, .int .i64 0, .slice none 0 0, .slice none 0 0]) ?_ 1 _ rfl; (with_reducible repeat (first | refine blk_drewN ?_ _ | refine blk_drew ?_ | refine blk_alloc ?_ _)); refine blk_put (cs := #[.int .i64 0, .int .i64 0, .int .i64 0, .slice none 0 0, .slice none 0 0]) ?_ 0 _ rfl; (with_reducible repeat (first | refine blk_drewN ?_ _ | refine blk_drew ?_ | refine blk_alloc ?_ _)); exact BK188.out⟩, ⟨pB HB⟩⟩
  case round =>
   clear H'
   try clear c1
   try clear c2
   try clear p2
   try clear c5
   try clear c5b0
   try clear c5b1
   try clear c8
   try clear c12
   try clear c13
   obtain ⟨x12_1, x30_1, x178000_1, x178001_1, x178002_1, x189000_1, x189001_1, x189002_1, x189003_1, x189004_1, u189003, u189004, rfl, HA, HK1, HO_12, HO_189003, HO_189004, BK176, BK177, BK188, HB⟩ := hrel
   cases gk with
   | zero => exact absurd HA.out (by simp [docket_Play.l0])
   | succ k1 =>
    have H := HA.out
    clear HA
    simp only [docket_Play.l0] at H
    by_cases c17 : x30_1 < (l2.length : Int)
    ·rw [if_pos c17] at H
     have c17b0 : decide (x30_1 < (l2.length : Int)) = true := decide_eq_true c17
     clear c17
     by_cases c18 : 0 ≤ x30_1
     ·rw [if_pos c18] at H
      have c18b0 : decide (0 ≤ x30_1) = true := decide_eq_true c18
      clear c18
      by_cases c19 : x30_1 < (l2.length : Int)
      ·rw [if_pos c19] at H
       have c19b0 : decide (x30_1 < (l2.length : Int)) = true := decide_eq_true c19
       clear c19
       replace H := Option.bind_eq_some_iff.mp H
       obtain ⟨⟨t191, t192, t193, t194, t197, t200, t203⟩, A200, H⟩ := H
       replace H : (if t203 = 0 then (if x12_1.length + t200.length < 5864062014805 then (docket_Play.l0 k1 (x12_1 ++ t200) l2 (l2.length : Int) (wrap64 (x30_1 + 1)) t191 t192 t193 t194 t197) else (none)) else (some (0, 0, 0, ([] : List Int), ([] : List (S50)), ([] : List (S52)), x30_1, t203))) = some (r1, r2, r3, r4, r5, r6, r7, r8) := H
       have A20 := Aside0.mk A200
       clear A200
       by_cases c21 : t203 = 0
       ·rw [if_pos c21] at H
        have c21b0 : (t203 == 0) = true := beq_iff_eq.mpr c21
        have c21b1 : (t203 != 0) = false := bne_eq_false_iff_eq.mpr c21
        clear c21
        by_cases c22 : x12_1.length + t200.length < 5864062014805
        ·rw [if_pos c22] at H
         have LMc22 := Aside0.mk c22
         clear c22
         obtain ⟨y205, hy205⟩ : ∃ y_ : List (S52), y_ = (x12_1 ++ t200) := ⟨_, rfl⟩
         replace H : (docket_Play.l0 k1 y205 l2 (l2.length : Int) (wrap64 (x30_1 + 1)) t191 t192 t193 t194 t197) = some (r1, r2, r3, r4, r5, r6, r7, r8) := by first | (rw [hy205]; with_reducible exact H) | (have H2_ := (Option.bind_some _ _).symm.trans H; rw [hy205]; with_reducible exact H2_) | (have H2_ := (Option.bind_some _ _).symm.trans H; with_reducible exact H2_) | with_reducible exact H | (rw [hy205]; exact H) | exact H
         have Ny205 := Aside0.mk hy205
         clear hy205
         have H' := Aside0.mk H
         clear H
         have p189 : 0 ≤ (x30_1 : Int) := of_decide_eq_true (by first | (with_reducible assumption) | assumption)
         have q189 : x30_1 < (l2.length : Int) := of_decide_eq_true (by first | (with_reducible assumption) | assumption)
         obtain ⟨ad189, e189, hx189_0, hx189_1, hx189_2, hx189_3⟩ := at_T47 HR2.out x30_1 p189 q189
         cases e189
         replace hx189_0 := (HB.out.cell (World.block_lt_of_cell? w _ hx189_0)).trans hx189_0
         replace hx189_1 := (HB.out.cell (World.block_lt_of_cell? w _ hx189_1)).trans hx189_1
         replace hx189_2 := (HB.out.cell (World.block_lt_of_cell? w _ hx189_2)).trans hx189_2
         replace hx189_3 := (HB.out.cell (World.block_lt_of_cell? w _ hx189_3)).trans hx189_3
         replace p189 := eq_true p189
         replace q189 := eq_true q189
         try go_wp2_with (first | ((with_reducible refine gate_dst (N := 14) rfl ?_); refine box_event ?hg (N := 14) ?hd (cs := #[.int .i64 0, .int .i64 0, .int .i64 0, .int .i64 0]) (t := 47) ?hr ?_; (case hd => rfl); (case hg => rfl); (case hr => first | (go_simp; done) | (go_simp; rfl)); intro gb190 hg w23 hbox hb; have n0_ := rB HO_12 hb; have n1_ := rB HO_189003 hb; have n2_ := rB HO_189004 hb; have n3_ := bB BK176 hb; have n4_ := bB BK177 hb; have n5_ := bB BK188 hb; have n6_ := Aside0.mk (below_step (pB HB) hb); have n7_ := Aside0.mk (hbox); have n8_ := Aside0.mk ((by rw [hg]; exact (below_size (pB HB)) : w.heap.size ≤ gb190)); have n9_ := Aside0.mk ((by rw [hg]; exact (below_size (pB HB)) : w.heap.size ≤ gb190)); have n10_ := Aside0.mk ((by rw [hg]; exact Nat.ne_of_lt (blk_lt (g := gb176) (o := .cells #[.int .i64 a1_0, .int .i64 a1_1, .slice A1_2 l1_2.length c1_2] 27 (0, 0)) (by (with_reducible repeat (first | refine blk_drewN ?_ _ | refine blk_drew ?_ | refine blk_alloc ?_ _)); exact BK176.out)) : gb176 ≠ gb190)); have n11_ := Aside0.mk ((by rw [hg]; exact Nat.ne_of_gt (blk_lt (g := gb176) (o := .cells #[.int .i64 a1_0, .int .i64 a1_1, .slice A1_2 l1_2.length c1_2] 27 (0, 0)) (by (with_reducible repeat (first | refine blk_drewN ?_ _ | refine blk_drew ?_ | refine blk_alloc ?_ _)); exact BK176.out)) : gb190 ≠ gb176)); have n12_ := Aside0.mk ((by rw [hg]; exact Nat.ne_of_lt (blk_lt (g := gb177) (o := .cells #[.int .i64 x178000_1, .int .i64 x178001_1, .int .i64 x178002_1, .slice none 0 0, .slice none 0 0] 30 (0, 0)) (by (with_reducible repeat (first | refine blk_drewN ?_ _ | refine blk_drew ?_ | refine blk_alloc ?_ _)); exact BK177.out)) : gb177 ≠ gb190)); have n13_ := Aside0.mk ((by rw [hg]; exact Nat.ne_of_gt (blk_lt (g := gb177) (o := .cells #[.int .i64 x178000_1, .int .i64 x178001_1, .int .i64 x178002_1, .slice none 0 0, .slice none 0 0] 30 (0, 0)) (by (with_reducible repeat (first | refine blk_drewN ?_ _ | refine blk_drew ?_ | refine blk_alloc ?_ _)); exact BK177.out)) : gb190 ≠ gb177)); have n14_ := Aside0.mk ((by rw [hg]; exact Nat.ne_of_lt (blk_lt (g := gb188) (o := .cells #[.int .i64 x189000_1, .int .i64 x189001_1, .int .i64 x189002_1, u189003, u189004] 30 (0, 0)) (by (with_reducible repeat (first | refine blk_drewN ?_ _ | refine blk_drew ?_ | refine blk_alloc ?_ _)); exact BK188.out)) : gb188 ≠ gb190)); have n15_ := Aside0.mk ((by rw [hg]; exact Nat.ne_of_gt (blk_lt (g := gb188) (o := .cells #[.int .i64 x189000_1, .int .i64 x189001_1, .int .i64 x189002_1, u189003, u189004] 30 (0, 0)) (by (with_reducible repeat (first | refine blk_drewN ?_ _ | refine blk_drew ?_ | refine blk_alloc ?_ _)); exact BK188.out)) : gb190 ≠ gb188)); clear HO_12; clear HO_189003; clear HO_189004; clear BK176; clear BK177; clear BK188; clear HB; have HO_12 := n0_; have HO_189003 := n1_; have HO_189004 := n2_; have BK176 := n3_; have BK177 := n4_; have BK188 := n5_; have HB := n6_; have BK190 := n7_; have GW190 := n8_; have GE190 := n9_; have NB176_190 := n10_; have NB190_176 := n11_; have NB177_190 := n12_; have NB190_177 := n13_; have NB188_190 := n14_; have NB190_188 := n15_; clear n0_ n1_ n2_ n3_ n4_ n5_ n6_ n7_ n8_ n9_ n10_ n11_ n12_ n13_ n14_ n15_; clear hb hbox hg; have hnb24 := NB190_176.out; have hnc24 := NB176_190.out; have hnb25 := NB190_177.out; have hnc25 := NB177_190.out; have hnb26 := NB190_188.out; have hnc26 := NB188_190.out; obtain ⟨hcz27_0, hcz27_1, hcz27_2, hcz27_3⟩ := cells4 BK190; obtain ⟨hfz27_0, hfz27_1, hfz27_2, hfz27_3⟩ := frz4 BK190; have hnb28 := NB188_176.out; have hnc28 := NB176_188.out; have hnb29 := NB188_177.out; have hnc29 := NB177_188.out; obtain ⟨hcz30_0, hcz30_1, hcz30_2, hcz30_3, hcz30_4⟩ := cells5 BK188; obtain ⟨hfz30_0, hfz30_1, hfz30_2, hfz30_3, hfz30_4⟩ := frz5 BK188; obtain ⟨Ao31, co31, eo31⟩ := Kd.R_slice HO_189003.out; subst eo31; obtain ⟨Ao32, co32, eo32⟩ := Kd.R_slice HO_189004.out; subst eo32) | ((with_reducible refine gate_callee (f := 20) rfl ?_); refine goesL_ (some 38) rfl rfl Try.func20 (by kernel_rfl) rfl #[.agg #[.int .i64 x189000_1, .int .i64 x189001_1, .int .i64 x189002_1, .slice Ao31 x189003_1.length co31, .slice Ao32 x189004_1.length co32], .agg #[.int .i64 ((rd_T47 l2 x30_1).f0), .int .i64 ((rd_T47 l2 x30_1).f1), .int .i64 ((rd_T47 l2 x30_1).f2), .int .i64 ((rd_T47 l2 x30_1).f3)]] rfl (by (try simp only [List.map_toArray, List.map_cons, List.map_nil]); first | done | rfl | (simp only [List.length_drop, List.length_take]; rfl)) ?_; (with_reducible refine (docket_File.calls k1 x189000_1 x189001_1 x189002_1 _ _ x189003_1 _ _ x189004_1 ((rd_T47 l2 x30_1).f0) ((rd_T47 l2 x30_1).f1) ((rd_T47 l2 x30_1).f2) ((rd_T47 l2 x30_1).f3) t191 t192 t193 t194 t197 t200 t203 _ ?side1 ?side2 ?side3 ?side4 A20.out).mono ?_); (case side1 => refine (Kd.R_reads' (e := 3) (base := w.heap.size) (ok := fun k_ => True) (n := x189003_1.length) (c := co31) ?_).2.2; exact (by (with_reducible repeat (first | apply Kd.R_alloc | apply Kd.R_drewN | apply Kd.R_drew)); exact (Kd.R_mono (Kd.R_far (p := ⟨gb190, 3, none⟩) (Kd.R_far (p := ⟨gb190, 2, none⟩) (Kd.R_far (p := ⟨gb190, 1, none⟩) (Kd.R_far (p := ⟨gb190, 0, none⟩) (Kd.R_types HO_189003.out BK190.out (by decide)) (fun _ hk => hk.2) (.int .i64 ((rd_T47 l2 x30_1).f0))) (fun _ hk => hk.2) (.int .i64 ((rd_T47 l2 x30_1).f1))) (fun _ hk => hk.2) (.int .i64 ((rd_T47 l2 x30_1).f2))) (fun _ hk => hk.2) (.int .i64 ((rd_T47 l2 x30_1).f3))) (fun _ h_ => h_.1)))); (case side2 => exact (Kd.R_reads' HO_189003.out).2.1); (case side3 => refine (Kd.R_reads' (e := 50) (base := w.heap.size) (ok := fun k_ => True) (n := x189004_1.length) (c := co32) ?_).2.2; exact (by (with_reducible repeat (first | apply Kd.R_alloc | apply Kd.R_drewN | apply Kd.R_drew)); exact (Kd.R_mono (Kd.R_far (p := ⟨gb190, 3, none⟩) (Kd.R_far (p := ⟨gb190, 2, none⟩) (Kd.R_far (p := ⟨gb190, 1, none⟩) (Kd.R_far (p := ⟨gb190, 0, none⟩) (Kd.R_types HO_189004.out BK190.out (by decide)) (fun _ hk => hk.2) (.int .i64 ((rd_T47 l2 x30_1).f0))) (fun _ hk => hk.2) (.int .i64 ((rd_T47 l2 x30_1).f1))) (fun _ hk => hk.2) (.int .i64 ((rd_T47 l2 x30_1).f2))) (fun _ hk => hk.2) (.int .i64 ((rd_T47 l2 x30_1).f3))) (fun _ h_ => h_.1)))); (case side4 => exact (Kd.R_reads' HO_189004.out).2.1); rintro e w33 ⟨v195, v198, v201, rfl, ho0, ho1, ho2, hb⟩; refine ⟨_, rfl, ?_⟩; have n0_ := Aside0.mk (Kd.R_elder' (by (with_reducible repeat (first | apply Kd.R_alloc | apply Kd.R_drewN | apply Kd.R_drew)); exact (Kd.R_mono (Kd.R_far (p := ⟨gb190, 3, none⟩) (Kd.R_far (p := ⟨gb190, 2, none⟩) (Kd.R_far (p := ⟨gb190, 1, none⟩) (Kd.R_far (p := ⟨gb190, 0, none⟩) (Kd.R_types HO_12.out BK190.out (by decide)) (fun _ hk => hk.2) (.int .i64 ((rd_T47 l2 x30_1).f0))) (fun _ hk => hk.2) (.int .i64 ((rd_T47 l2 x30_1).f1))) (fun _ hk => hk.2) (.int .i64 ((rd_T47 l2 x30_1).f2))) (fun _ hk => hk.2) (.int .i64 ((rd_T47 l2 x30_1).f3))) (fun _ h_ => h_.1))) (Kd.R_base ho2) hb); have n1_ := Aside0.mk (Kd.R_elder' (by (with_reducible repeat (first | apply Kd.R_alloc | apply Kd.R_drewN | apply Kd.R_drew)); exact (Kd.R_mono (Kd.R_far (p := ⟨gb190, 3, none⟩) (Kd.R_far (p := ⟨gb190, 2, none⟩) (Kd.R_far (p := ⟨gb190, 1, none⟩) (Kd.R_far (p := ⟨gb190, 0, none⟩) (Kd.R_types HO_189003.out BK190.out (by decide)) (fun _ hk => hk.2) (.int .i64 ((rd_T47 l2 x30_1).f0))) (fun _ hk => hk.2) (.int .i64 ((rd_T47 l2 x30_1).f1))) (fun _ hk => hk.2) (.int .i64 ((rd_T47 l2 x30_1).f2))) (fun _ hk => hk.2) (.int .i64 ((rd_T47 l2 x30_1).f3))) (fun _ h_ => h_.1))) (Kd.R_base ho0) hb); have n2_ := Aside0.mk (Kd.R_elder' (by (with_reducible repeat (first | apply Kd.R_alloc | apply Kd.R_drewN | apply Kd.R_drew)); exact (Kd.R_mono (Kd.R_far (p := ⟨gb190, 3, none⟩) (Kd.R_far (p := ⟨gb190, 2, none⟩) (Kd.R_far (p := ⟨gb190, 1, none⟩) (Kd.R_far (p := ⟨gb190, 0, none⟩) (Kd.R_types HO_189004.out BK190.out (by decide)) (fun _ hk => hk.2) (.int .i64 ((rd_T47 l2 x30_1).f0))) (fun _ hk => hk.2) (.int .i64 ((rd_T47 l2 x30_1).f1))) (fun _ hk => hk.2) (.int .i64 ((rd_T47 l2 x30_1).f2))) (fun _ hk => hk.2) (.int .i64 ((rd_T47 l2 x30_1).f3))) (fun _ h_ => h_.1))) (Kd.R_base ho1) hb); have n3_ := Aside0.mk (Kd.R_lower (Kd.R_new' ho0 (Kd.R_lt (by (with_reducible repeat (first | apply Kd.R_alloc | apply Kd.R_drewN | apply Kd.R_drew)); exact (Kd.R_mono (Kd.R_far (p := ⟨gb190, 3, none⟩) (Kd.R_far (p := ⟨gb190, 2, none⟩) (Kd.R_far (p := ⟨gb190, 1, none⟩) (Kd.R_far (p := ⟨gb190, 0, none⟩) (Kd.R_types HO_189003.out BK190.out (by decide)) (fun _ hk => hk.2) (.int .i64 ((rd_T47 l2 x30_1).f0))) (fun _ hk => hk.2) (.int .i64 ((rd_T47 l2 x30_1).f1))) (fun _ hk => hk.2) (.int .i64 ((rd_T47 l2 x30_1).f2))) (fun _ hk => hk.2) (.int .i64 ((rd_T47 l2 x30_1).f3))) (fun _ h_ => h_.1))))) (below_size (pB HB))); have n4_ := Aside0.mk (Kd.R_lower (Kd.R_new' ho1 (Kd.R_lt (by (with_reducible repeat (first | apply Kd.R_alloc | apply Kd.R_drewN | apply Kd.R_drew)); exact (Kd.R_mono (Kd.R_far (p := ⟨gb190, 3, none⟩) (Kd.R_far (p := ⟨gb190, 2, none⟩) (Kd.R_far (p := ⟨gb190, 1, none⟩) (Kd.R_far (p := ⟨gb190, 0, none⟩) (Kd.R_types HO_189004.out BK190.out (by decide)) (fun _ hk => hk.2) (.int .i64 ((rd_T47 l2 x30_1).f0))) (fun _ hk => hk.2) (.int .i64 ((rd_T47 l2 x30_1).f1))) (fun _ hk => hk.2) (.int .i64 ((rd_T47 l2 x30_1).f2))) (fun _ hk => hk.2) (.int .i64 ((rd_T47 l2 x30_1).f3))) (fun _ h_ => h_.1))))) (below_size (pB HB))); have n5_ := Aside0.mk (Kd.R_lower (Kd.R_new' ho2 (Kd.R_lt (by (with_reducible repeat (first | apply Kd.R_alloc | apply Kd.R_drewN | apply Kd.R_drew)); exact (Kd.R_mono (Kd.R_far (p := ⟨gb190, 3, none⟩) (Kd.R_far (p := ⟨gb190, 2, none⟩) (Kd.R_far (p := ⟨gb190, 1, none⟩) (Kd.R_far (p := ⟨gb190, 0, none⟩) (Kd.R_types HO_12.out BK190.out (by decide)) (fun _ hk => hk.2) (.int .i64 ((rd_T47 l2 x30_1).f0))) (fun _ hk => hk.2) (.int .i64 ((rd_T47 l2 x30_1).f1))) (fun _ hk => hk.2) (.int .i64 ((rd_T47 l2 x30_1).f2))) (fun _ hk => hk.2) (.int .i64 ((rd_T47 l2 x30_1).f3))) (fun _ h_ => h_.1))))) (below_size (pB HB))); have n6_ := Aside0.mk (blk_below (g := gb176) (o := .cells #[.int .i64 a1_0, .int .i64 a1_1, .slice A1_2 l1_2.length c1_2] 27 (0, 0)) (by (with_reducible repeat (first | refine blk_drewN ?_ _ | refine blk_drew ?_ | refine blk_alloc ?_ _)); refine blk_far ?_ NB176_190.out _; (with_reducible repeat (first | refine blk_drewN ?_ _ | refine blk_drew ?_ | refine blk_alloc ?_ _)); refine blk_far ?_ NB176_190.out _; (with_reducible repeat (first | refine blk_drewN ?_ _ | refine blk_drew ?_ | refine blk_alloc ?_ _)); refine blk_far ?_ NB176_190.out _; (with_reducible repeat (first | refine blk_drewN ?_ _ | refine blk_drew ?_ | refine blk_alloc ?_ _)); refine blk_far ?_ NB176_190.out _; (with_reducible repeat (first | refine blk_drewN ?_ _ | refine blk_drew ?_ | refine blk_alloc ?_ _)); exact BK176.out) hb); have n7_ := Aside0.mk (blk_below (g := gb177) (o := .cells #[.int .i64 x178000_1, .int .i64 x178001_1, .int .i64 x178002_1, .slice none 0 0, .slice none 0 0] 30 (0, 0)) (by (with_reducible repeat (first | refine blk_drewN ?_ _ | refine blk_drew ?_ | refine blk_alloc ?_ _)); refine blk_far ?_ NB177_190.out _; (with_reducible repeat (first | refine blk_drewN ?_ _ | refine blk_drew ?_ | refine blk_alloc ?_ _)); refine blk_far ?_ NB177_190.out _; (with_reducible repeat (first | refine blk_drewN ?_ _ | refine blk_drew ?_ | refine blk_alloc ?_ _)); refine blk_far ?_ NB177_190.out _; (with_reducible repeat (first | refine blk_drewN ?_ _ | refine blk_drew ?_ | refine blk_alloc ?_ _)); refine blk_far ?_ NB177_190.out _; (with_reducible repeat (first | refine blk_drewN ?_ _ | refine blk_drew ?_ | refine blk_alloc ?_ _)); exact BK177.out) hb); have n8_ := Aside0.mk (blk_below (g := gb188) (o := .cells #[.int .i64 x189000_1, .int .i64 x189001_1, .int .i64 x189002_1, .slice Ao31 x189003_1.length co31, .slice Ao32 x189004_1.length co32] 30 (0, 0)) (by (with_reducible repeat (first | refine blk_drewN ?_ _ | refine blk_drew ?_ | refine blk_alloc ?_ _)); refine blk_far ?_ NB188_190.out _; (with_reducible repeat (first | refine blk_drewN ?_ _ | refine blk_drew ?_ | refine blk_alloc ?_ _)); refine blk_far ?_ NB188_190.out _; (with_reducible repeat (first | refine blk_drewN ?_ _ | refine blk_drew ?_ | refine blk_alloc ?_ _)); refine blk_far ?_ NB188_190.out _; (with_reducible repeat (first | refine blk_drewN ?_ _ | refine blk_drew ?_ | refine blk_alloc ?_ _)); refine blk_far ?_ NB188_190.out _; (with_reducible repeat (first | refine blk_drewN ?_ _ | refine blk_drew ?_ | refine blk_alloc ?_ _)); exact BK188.out) hb); have n9_ := Aside0.mk (blk_below (g := gb190) (o := .cells #[.int .i64 ((rd_T47 l2 x30_1).f0), .int .i64 ((rd_T47 l2 x30_1).f1), .int .i64 ((rd_T47 l2 x30_1).f2), .int .i64 ((rd_T47 l2 x30_1).f3)] 47 (0, 0)) (by (with_reducible repeat (first | refine blk_drewN ?_ _ | refine blk_drew ?_ | refine blk_alloc ?_ _)); refine blk_put (cs := #[.int .i64 ((rd_T47 l2 x30_1).f0), .int .i64 ((rd_T47 l2 x30_1).f1), .int .i64 ((rd_T47 l2 x30_1).f2), .int .i64 0]) ?_ 3 _ rfl; (with_reducible repeat (first | refine blk_drewN ?_ _ | refine blk_drew ?_ | refine blk_alloc ?_ _)); refine blk_put (cs := #[.int .i64 ((rd_T47 l2 x30_1).f0), .int .i64 ((rd_T47 l2 x30_1).f1), .int .i64 0, .int .i64 0]) ?_ 2 _ rfl; (with_reducible repeat (first | refine blk_drewN ?_ _ | refine blk_drew ?_ | refine blk_alloc ?_ _)); refine blk_put (cs := #[.int .i64 ((rd_T47 l2 x30_1).f0), .int .i64 0, .int .i64 0, .int .i64 0]) ?_ 1 _ rfl; (with_reducible repeat (first | refine blk_drewN ?_ _ | refine blk_drew ?_ | refine blk_alloc ?_ _)); refine blk_put (cs := #[.int .i64 0, .int .i64 0, .int .i64 0, .int .i64 0]) ?_ 0 _ rfl; (with_reducible repeat (first | refine blk_drewN ?_ _ | refine blk_drew ?_ | refine blk_alloc ?_ _)); exact BK190.out) hb); have n10_ := Aside0.mk (below_step (pB HB) hb); clear HO_12; clear HO_189003; clear HO_189004; clear BK176; clear BK177; clear BK188; clear BK190; clear HB; have HO_12 := n0_; have HO_189003 := n1_; have HO_189004 := n2_; have HO196 := n3_; have HO199 := n4_; have HO202 := n5_; have BK176 := n6_; have BK177 := n7_; have BK188 := n8_; have BK190 := n9_; have HB := n10_; clear n0_ n1_ n2_ n3_ n4_ n5_ n6_ n7_ n8_ n9_ n10_; (try clear hb); (try clear hb2); (try clear hk); (try clear hi); (try clear ho0); (try clear ho1); (try clear ho2)) | ((with_reducible refine gate_dst (N := 15) rfl ?_); refine box_event ?hg (N := 15) ?hd (cs := #[.int .i64 0, .int .i64 0, .int .i64 0, .slice none 0 0, .slice none 0 0]) (t := 30) ?hr ?_; (case hd => rfl); (case hg => rfl); (case hr => first | (go_simp; done) | (go_simp; rfl)); intro gb204 hg w34 hbox hb; have n0_ := rB HO_12 hb; have n1_ := rB HO_189003 hb; have n2_ := rB HO_189004 hb; have n3_ := rB HO196 hb; have n4_ := rB HO199 hb; have n5_ := rB HO202 hb; have n6_ := bB BK176 hb; have n7_ := bB BK177 hb; have n8_ := bB BK188 hb; have n9_ := bB BK190 hb; have n10_ := Aside0.mk (below_step (pB HB) hb); have n11_ := Aside0.mk (hbox); have n12_ := Aside0.mk ((by rw [hg]; exact (below_size (pB HB)) : w.heap.size ≤ gb204)); have n13_ := Aside0.mk ((by rw [hg]; exact (below_size (pB HB)) : w.heap.size ≤ gb204)); have n14_ := Aside0.mk ((by rw [hg]; exact Nat.ne_of_lt (blk_lt (g := gb176) (o := .cells #[.int .i64 a1_0, .int .i64 a1_1, .slice A1_2 l1_2.length c1_2] 27 (0, 0)) (by (with_reducible repeat (first | refine blk_drewN ?_ _ | refine blk_drew ?_ | refine blk_alloc ?_ _)); exact BK176.out)) : gb176 ≠ gb204)); have n15_ := Aside0.mk ((by rw [hg]; exact Nat.ne_of_gt (blk_lt (g := gb176) (o := .cells #[.int .i64 a1_0, .int .i64 a1_1, .slice A1_2 l1_2.length c1_2] 27 (0, 0)) (by (with_reducible repeat (first | refine blk_drewN ?_ _ | refine blk_drew ?_ | refine blk_alloc ?_ _)); exact BK176.out)) : gb204 ≠ gb176)); have n16_ := Aside0.mk ((by rw [hg]; exact Nat.ne_of_lt (blk_lt (g := gb177) (o := .cells #[.int .i64 x178000_1, .int .i64 x178001_1, .int .i64 x178002_1, .slice none 0 0, .slice none 0 0] 30 (0, 0)) (by (with_reducible repeat (first | refine blk_drewN ?_ _ | refine blk_drew ?_ | refine blk_alloc ?_ _)); exact BK177.out)) : gb177 ≠ gb204)); have n17_ := Aside0.mk ((by rw [hg]; exact Nat.ne_of_gt (blk_lt (g := gb177) (o := .cells #[.int .i64 x178000_1, .int .i64 x178001_1, .int .i64 x178002_1, .slice none 0 0, .slice none 0 0] 30 (0, 0)) (by (with_reducible repeat (first | refine blk_drewN ?_ _ | refine blk_drew ?_ | refine blk_alloc ?_ _)); exact BK177.out)) : gb204 ≠ gb177)); have n18_ := Aside0.mk ((by rw [hg]; exact Nat.ne_of_lt (blk_lt (g := gb188) (o := .cells #[.int .i64 x189000_1, .int .i64 x189001_1, .int .i64 x189002_1, .slice Ao31 x189003_1.length co31, .slice Ao32 x189004_1.length co32] 30 (0, 0)) (by (with_reducible repeat (first | refine blk_drewN ?_ _ | refine blk_drew ?_ | refine blk_alloc ?_ _)); exact BK188.out)) : gb188 ≠ gb204)); have n19_ := Aside0.mk ((by rw [hg]; exact Nat.ne_of_gt (blk_lt (g := gb188) (o := .cells #[.int .i64 x189000_1, .int .i64 x189001_1, .int .i64 x189002_1, .slice Ao31 x189003_1.length co31, .slice Ao32 x189004_1.length co32] 30 (0, 0)) (by (with_reducible repeat (first | refine blk_drewN ?_ _ | refine blk_drew ?_ | refine blk_alloc ?_ _)); exact BK188.out)) : gb204 ≠ gb188)); have n20_ := Aside0.mk ((by rw [hg]; exact Nat.ne_of_lt (blk_lt (g := gb190) (o := .cells #[.int .i64 ((rd_T47 l2 x30_1).f0), .int .i64 ((rd_T47 l2 x30_1).f1), .int .i64 ((rd_T47 l2 x30_1).f2), .int .i64 ((rd_T47 l2 x30_1).f3)] 47 (0, 0)) (by (with_reducible repeat (first | refine blk_drewN ?_ _ | refine blk_drew ?_ | refine blk_alloc ?_ _)); exact BK190.out)) : gb190 ≠ gb204)); have n21_ := Aside0.mk ((by rw [hg]; exact Nat.ne_of_gt (blk_lt (g := gb190) (o := .cells #[.int .i64 ((rd_T47 l2 x30_1).f0), .int .i64 ((rd_T47 l2 x30_1).f1), .int .i64 ((rd_T47 l2 x30_1).f2), .int .i64 ((rd_T47 l2 x30_1).f3)] 47 (0, 0)) (by (with_reducible repeat (first | refine blk_drewN ?_ _ | refine blk_drew ?_ | refine blk_alloc ?_ _)); exact BK190.out)) : gb204 ≠ gb190)); clear HO_12; clear HO_189003; clear HO_189004; clear HO196; clear HO199; clear HO202; clear BK176; clear BK177; clear BK188; clear BK190; clear HB; have HO_12 := n0_; have HO_189003 := n1_; have HO_189004 := n2_; have HO196 := n3_; have HO199 := n4_; have HO202 := n5_; have BK176 := n6_; have BK177 := n7_; have BK188 := n8_; have BK190 := n9_; have HB := n10_; have BK204 := n11_; have GW204 := n12_; have GE204 := n13_; have NB176_204 := n14_; have NB204_176 := n15_; have NB177_204 := n16_; have NB204_177 := n17_; have NB188_204 := n18_; have NB204_188 := n19_; have NB190_204 := n20_; have NB204_190 := n21_; clear n0_ n1_ n2_ n3_ n4_ n5_ n6_ n7_ n8_ n9_ n10_ n11_ n12_ n13_ n14_ n15_ n16_ n17_ n18_ n19_ n20_ n21_; clear hb hbox hg; have hnb35 := NB204_176.out; have hnc35 := NB176_204.out; have hnb36 := NB204_177.out; have hnc36 := NB177_204.out; have hnb37 := NB204_188.out; have hnc37 := NB188_204.out; have hnb38 := NB204_190.out; have hnc38 := NB190_204.out; obtain ⟨hcz39_0, hcz39_1, hcz39_2, hcz39_3, hcz39_4⟩ := cells5 BK204; obtain ⟨hfz39_0, hfz39_1, hfz39_2, hfz39_3, hfz39_4⟩ := frz5 BK204; obtain ⟨Ao40, co40, eo40⟩ := Kd.R_slice HO196.out; subst eo40; obtain ⟨Ao41, co41, eo41⟩ := Kd.R_slice HO199.out; subst eo41))
         have n0_ : Aside0 (Kd.R k52 52 (((((w34.setCell ⟨gb204, 0, none⟩ (.int .i64 t191)).setCell ⟨gb204, 1, none⟩ (.int .i64 t192)).setCell ⟨gb204, 2, none⟩ (.int .i64 t193)).setCell ⟨gb204, 3, none⟩ (.slice Ao40 t194.length co40)).setCell ⟨gb204, 4, none⟩ (.slice Ao41 t197.length co41)) w.heap.size (fun k_ => some k_ ≠ (v201 : Value).ownBlock) u12 x12_1) := ⟨by (with_reducible repeat (first | apply Kd.R_alloc | apply Kd.R_drewN | apply Kd.R_drew)); exact Kd.R_mono (Kd.R_far (p := ⟨gb204, 4, none⟩) (Kd.R_far (p := ⟨gb204, 3, none⟩) (Kd.R_far (p := ⟨gb204, 2, none⟩) (Kd.R_far (p := ⟨gb204, 1, none⟩) (Kd.R_far (p := ⟨gb204, 0, none⟩) (Kd.R_types HO_12.out BK204.out (by decide)) (fun _ hk => hk.2) (.int .i64 t191)) (fun _ hk => hk.2) (.int .i64 t192)) (fun _ hk => hk.2) (.int .i64 t193)) (fun _ hk => hk.2) (.slice Ao40 t194.length co40)) (fun _ hk => hk.2) (.slice Ao41 t197.length co41)) (fun _ hk => hk.1.2)⟩
         have n1_ : Aside0 (Kd.R (Kd.int .i64) 3 (((((w34.setCell ⟨gb204, 0, none⟩ (.int .i64 t191)).setCell ⟨gb204, 1, none⟩ (.int .i64 t192)).setCell ⟨gb204, 2, none⟩ (.int .i64 t193)).setCell ⟨gb204, 3, none⟩ (.slice Ao40 t194.length co40)).setCell ⟨gb204, 4, none⟩ (.slice Ao41 t197.length co41)) w.heap.size (fun k_ => some k_ ≠ (.slice Ao40 t194.length co40 : Value).ownBlock) (.slice Ao31 x189003_1.length co31) x189003_1) := ⟨by (with_reducible repeat (first | apply Kd.R_alloc | apply Kd.R_drewN | apply Kd.R_drew)); exact Kd.R_mono (Kd.R_far (p := ⟨gb204, 4, none⟩) (Kd.R_far (p := ⟨gb204, 3, none⟩) (Kd.R_far (p := ⟨gb204, 2, none⟩) (Kd.R_far (p := ⟨gb204, 1, none⟩) (Kd.R_far (p := ⟨gb204, 0, none⟩) (Kd.R_types HO_189003.out BK204.out (by decide)) (fun _ hk => hk.2) (.int .i64 t191)) (fun _ hk => hk.2) (.int .i64 t192)) (fun _ hk => hk.2) (.int .i64 t193)) (fun _ hk => hk.2) (.slice Ao40 t194.length co40)) (fun _ hk => hk.2) (.slice Ao41 t197.length co41)) (fun _ hk => hk.1.2)⟩
         have n2_ : Aside0 (Kd.R k50 50 (((((w34.setCell ⟨gb204, 0, none⟩ (.int .i64 t191)).setCell ⟨gb204, 1, none⟩ (.int .i64 t192)).setCell ⟨gb204, 2, none⟩ (.int .i64 t193)).setCell ⟨gb204, 3, none⟩ (.slice Ao40 t194.length co40)).setCell ⟨gb204, 4, none⟩ (.slice Ao41 t197.length co41)) w.heap.size (fun k_ => some k_ ≠ (.slice Ao41 t197.length co41 : Value).ownBlock) (.slice Ao32 x189004_1.length co32) x189004_1) := ⟨by (with_reducible repeat (first | apply Kd.R_alloc | apply Kd.R_drewN | apply Kd.R_drew)); exact Kd.R_mono (Kd.R_far (p := ⟨gb204, 4, none⟩) (Kd.R_far (p := ⟨gb204, 3, none⟩) (Kd.R_far (p := ⟨gb204, 2, none⟩) (Kd.R_far (p := ⟨gb204, 1, none⟩) (Kd.R_far (p := ⟨gb204, 0, none⟩) (Kd.R_types HO_189004.out BK204.out (by decide)) (fun _ hk => hk.2) (.int .i64 t191)) (fun _ hk => hk.2) (.int .i64 t192)) (fun _ hk => hk.2) (.int .i64 t193)) (fun _ hk => hk.2) (.slice Ao40 t194.length co40)) (fun _ hk => hk.2) (.slice Ao41 t197.length co41)) (fun _ hk => hk.1.2)⟩
         have n3_ : Aside0 (Kd.R (Kd.int .i64) 3 (((((w34.setCell ⟨gb204, 0, none⟩ (.int .i64 t191)).setCell ⟨gb204, 1, none⟩ (.int .i64 t192)).setCell ⟨gb204, 2, none⟩ (.int .i64 t193)).setCell ⟨gb204, 3, none⟩ (.slice Ao40 t194.length co40)).setCell ⟨gb204, 4, none⟩ (.slice Ao41 t197.length co41)) w.heap.size (fun k_ => some k_ ≠ (.slice Ao31 x189003_1.length co31 : Value).ownBlock) (.slice Ao40 t194.length co40) t194) := ⟨by (with_reducible repeat (first | apply Kd.R_alloc | apply Kd.R_drewN | apply Kd.R_drew)); exact Kd.R_mono (Kd.R_far (p := ⟨gb204, 4, none⟩) (Kd.R_far (p := ⟨gb204, 3, none⟩) (Kd.R_far (p := ⟨gb204, 2, none⟩) (Kd.R_far (p := ⟨gb204, 1, none⟩) (Kd.R_far (p := ⟨gb204, 0, none⟩) (Kd.R_types HO196.out BK204.out (by decide)) (fun _ hk => hk.2) (.int .i64 t191)) (fun _ hk => hk.2) (.int .i64 t192)) (fun _ hk => hk.2) (.int .i64 t193)) (fun _ hk => hk.2) (.slice Ao40 t194.length co40)) (fun _ hk => hk.2) (.slice Ao41 t197.length co41)) (fun _ hk => hk.1.2)⟩
         have n4_ : Aside0 (Kd.R k50 50 (((((w34.setCell ⟨gb204, 0, none⟩ (.int .i64 t191)).setCell ⟨gb204, 1, none⟩ (.int .i64 t192)).setCell ⟨gb204, 2, none⟩ (.int .i64 t193)).setCell ⟨gb204, 3, none⟩ (.slice Ao40 t194.length co40)).setCell ⟨gb204, 4, none⟩ (.slice Ao41 t197.length co41)) w.heap.size (fun k_ => some k_ ≠ (.slice Ao32 x189004_1.length co32 : Value).ownBlock) (.slice Ao41 t197.length co41) t197) := ⟨by (with_reducible repeat (first | apply Kd.R_alloc | apply Kd.R_drewN | apply Kd.R_drew)); exact Kd.R_mono (Kd.R_far (p := ⟨gb204, 4, none⟩) (Kd.R_far (p := ⟨gb204, 3, none⟩) (Kd.R_far (p := ⟨gb204, 2, none⟩) (Kd.R_far (p := ⟨gb204, 1, none⟩) (Kd.R_far (p := ⟨gb204, 0, none⟩) (Kd.R_types HO199.out BK204.out (by decide)) (fun _ hk => hk.2) (.int .i64 t191)) (fun _ hk => hk.2) (.int .i64 t192)) (fun _ hk => hk.2) (.int .i64 t193)) (fun _ hk => hk.2) (.slice Ao40 t194.length co40)) (fun _ hk => hk.2) (.slice Ao41 t197.length co41)) (fun _ hk => hk.1.2)⟩
         have n5_ : Aside0 (Kd.R k52 52 (((((w34.setCell ⟨gb204, 0, none⟩ (.int .i64 t191)).setCell ⟨gb204, 1, none⟩ (.int .i64 t192)).setCell ⟨gb204, 2, none⟩ (.int .i64 t193)).setCell ⟨gb204, 3, none⟩ (.slice Ao40 t194.length co40)).setCell ⟨gb204, 4, none⟩ (.slice Ao41 t197.length co41)) w.heap.size (fun k_ => some k_ ≠ (u12 : Value).ownBlock) v201 t200) := ⟨by (with_reducible repeat (first | apply Kd.R_alloc | apply Kd.R_drewN | apply Kd.R_drew)); exact Kd.R_mono (Kd.R_far (p := ⟨gb204, 4, none⟩) (Kd.R_far (p := ⟨gb204, 3, none⟩) (Kd.R_far (p := ⟨gb204, 2, none⟩) (Kd.R_far (p := ⟨gb204, 1, none⟩) (Kd.R_far (p := ⟨gb204, 0, none⟩) (Kd.R_types HO202.out BK204.out (by decide)) (fun _ hk => hk.2) (.int .i64 t191)) (fun _ hk => hk.2) (.int .i64 t192)) (fun _ hk => hk.2) (.int .i64 t193)) (fun _ hk => hk.2) (.slice Ao40 t194.length co40)) (fun _ hk => hk.2) (.slice Ao41 t197.length co41)) (fun _ hk => hk.1.2)⟩
         have n6_ : Aside0 ((((((w34.setCell ⟨gb204, 0, none⟩ (.int .i64 t191)).setCell ⟨gb204, 1, none⟩ (.int .i64 t192)).setCell ⟨gb204, 2, none⟩ (.int .i64 t193)).setCell ⟨gb204, 3, none⟩ (.slice Ao40 t194.length co40)).setCell ⟨gb204, 4, none⟩ (.slice Ao41 t197.length co41)).heap[gb176]? = some (.cells #[.int .i64 a1_0, .int .i64 a1_1, .slice A1_2 l1_2.length c1_2] 27 (0, 0))) := ⟨by (with_reducible repeat (first | refine blk_drewN ?_ _ | refine blk_drew ?_ | refine blk_alloc ?_ _)); refine blk_far ?_ NB176_204.out _; (with_reducible repeat (first | refine blk_drewN ?_ _ | refine blk_drew ?_ | refine blk_alloc ?_ _)); refine blk_far ?_ NB176_204.out _; (with_reducible repeat (first | refine blk_drewN ?_ _ | refine blk_drew ?_ | refine blk_alloc ?_ _)); refine blk_far ?_ NB176_204.out _; (with_reducible repeat (first | refine blk_drewN ?_ _ | refine blk_drew ?_ | refine blk_alloc ?_ _)); refine blk_far ?_ NB176_204.out _; (with_reducible repeat (first | refine blk_drewN ?_ _ | refine blk_drew ?_ | refine blk_alloc ?_ _)); refine blk_far ?_ NB176_204.out _; (with_reducible repeat (first | refine blk_drewN ?_ _ | refine blk_drew ?_ | refine blk_alloc ?_ _)); exact BK176.out⟩
         have n7_ : Aside0 ((((((w34.setCell ⟨gb204, 0, none⟩ (.int .i64 t191)).setCell ⟨gb204, 1, none⟩ (.int .i64 t192)).setCell ⟨gb204, 2, none⟩ (.int .i64 t193)).setCell ⟨gb204, 3, none⟩ (.slice Ao40 t194.length co40)).setCell ⟨gb204, 4, none⟩ (.slice Ao41 t197.length co41)).heap[gb177]? = some (.cells #[.int .i64 x178000_1, .int .i64 x178001_1, .int .i64 x178002_1, .slice none 0 0, .slice none 0 0] 30 (0, 0))) := ⟨by (with_reducible repeat (first | refine blk_drewN ?_ _ | refine blk_drew ?_ | refine blk_alloc ?_ _)); refine blk_far ?_ NB177_204.out _; (with_reducible repeat (first | refine blk_drewN ?_ _ | refine blk_drew ?_ | refine blk_alloc ?_ _)); refine blk_far ?_ NB177_204.out _; (with_reducible repeat (first | refine blk_drewN ?_ _ | refine blk_drew ?_ | refine blk_alloc ?_ _)); refine blk_far ?_ NB177_204.out _; (with_reducible repeat (first | refine blk_drewN ?_ _ | refine blk_drew ?_ | refine blk_alloc ?_ _)); refine blk_far ?_ NB177_204.out _; (with_reducible repeat (first | refine blk_drewN ?_ _ | refine blk_drew ?_ | refine blk_alloc ?_ _)); refine blk_far ?_ NB177_204.out _; (with_reducible repeat (first | refine blk_drewN ?_ _ | refine blk_drew ?_ | refine blk_alloc ?_ _)); exact BK177.out⟩
         have n8_ : Aside0 ((((((w34.setCell ⟨gb204, 0, none⟩ (.int .i64 t191)).setCell ⟨gb204, 1, none⟩ (.int .i64 t192)).setCell ⟨gb204, 2, none⟩ (.int .i64 t193)).setCell ⟨gb204, 3, none⟩ (.slice Ao40 t194.length co40)).setCell ⟨gb204, 4, none⟩ (.slice Ao41 t197.length co41)).heap[gb188]? = some (.cells #[.int .i64 x189000_1, .int .i64 x189001_1, .int .i64 x189002_1, .slice Ao31 x189003_1.length co31, .slice Ao32 x189004_1.length co32] 30 (0, 0))) := ⟨by (with_reducible repeat (first | refine blk_drewN ?_ _ | refine blk_drew ?_ | refine blk_alloc ?_ _)); refine blk_far ?_ NB188_204.out _; (with_reducible repeat (first | refine blk_drewN ?_ _ | refine blk_drew ?_ | refine blk_alloc ?_ _)); refine blk_far ?_ NB188_204.out _; (with_reducible repeat (first | refine blk_drewN ?_ _ | refine blk_drew ?_ | refine blk_alloc ?_ _)); refine blk_far ?_ NB188_204.out _; (with_reducible repeat (first | refine blk_drewN ?_ _ | refine blk_drew ?_ | refine blk_alloc ?_ _)); refine blk_far ?_ NB188_204.out _; (with_reducible repeat (first | refine blk_drewN ?_ _ | refine blk_drew ?_ | refine blk_alloc ?_ _)); refine blk_far ?_ NB188_204.out _; (with_reducible repeat (first | refine blk_drewN ?_ _ | refine blk_drew ?_ | refine blk_alloc ?_ _)); exact BK188.out⟩
         have n9_ : Aside0 ((((((w34.setCell ⟨gb204, 0, none⟩ (.int .i64 t191)).setCell ⟨gb204, 1, none⟩ (.int .i64 t192)).setCell ⟨gb204, 2, none⟩ (.int .i64 t193)).setCell ⟨gb204, 3, none⟩ (.slice Ao40 t194.length co40)).setCell ⟨gb204, 4, none⟩ (.slice Ao41 t197.length co41)).heap[gb190]? = some (.cells #[.int .i64 ((rd_T47 l2 x30_1).f0), .int .i64 ((rd_T47 l2 x30_1).f1), .int .i64 ((rd_T47 l2 x30_1).f2), .int .i64 ((rd_T47 l2 x30_1).f3)] 47 (0, 0))) := ⟨by (with_reducible repeat (first | refine blk_drewN ?_ _ | refine blk_drew ?_ | refine blk_alloc ?_ _)); refine blk_far ?_ NB190_204.out _; (with_reducible repeat (first | refine blk_drewN ?_ _ | refine blk_drew ?_ | refine blk_alloc ?_ _)); refine blk_far ?_ NB190_204.out _; (with_reducible repeat (first | refine blk_drewN ?_ _ | refine blk_drew ?_ | refine blk_alloc ?_ _)); refine blk_far ?_ NB190_204.out _; (with_reducible repeat (first | refine blk_drewN ?_ _ | refine blk_drew ?_ | refine blk_alloc ?_ _)); refine blk_far ?_ NB190_204.out _; (with_reducible repeat (first | refine blk_drewN ?_ _ | refine blk_drew ?_ | refine blk_alloc ?_ _)); refine blk_far ?_ NB190_204.out _; (with_reducible repeat (first | refine blk_drewN ?_ _ | refine blk_drew ?_ | refine blk_alloc ?_ _)); exact BK190.out⟩
         have n10_ : Aside0 ((((((w34.setCell ⟨gb204, 0, none⟩ (.int .i64 t191)).setCell ⟨gb204, 1, none⟩ (.int .i64 t192)).setCell ⟨gb204, 2, none⟩ (.int .i64 t193)).setCell ⟨gb204, 3, none⟩ (.slice Ao40 t194.length co40)).setCell ⟨gb204, 4, none⟩ (.slice Ao41 t197.length co41)).heap[gb204]? = some (.cells #[.int .i64 t191, .int .i64 t192, .int .i64 t193, .slice Ao40 t194.length co40, .slice Ao41 t197.length co41] 30 (0, 0))) := ⟨by (with_reducible repeat (first | refine blk_drewN ?_ _ | refine blk_drew ?_ | refine blk_alloc ?_ _)); refine blk_put (cs := #[.int .i64 t191, .int .i64 t192, .int .i64 t193, .slice Ao40 t194.length co40, .slice none 0 0]) ?_ 4 _ rfl; (with_reducible repeat (first | refine blk_drewN ?_ _ | refine blk_drew ?_ | refine blk_alloc ?_ _)); refine blk_put (cs := #[.int .i64 t191, .int .i64 t192, .int .i64 t193, .slice none 0 0, .slice none 0 0]) ?_ 3 _ rfl; (with_reducible repeat (first | refine blk_drewN ?_ _ | refine blk_drew ?_ | refine blk_alloc ?_ _)); refine blk_put (cs := #[.int .i64 t191, .int .i64 t192, .int .i64 0, .slice none 0 0, .slice none 0 0]) ?_ 2 _ rfl; (with_reducible repeat (first | refine blk_drewN ?_ _ | refine blk_drew ?_ | refine blk_alloc ?_ _)); refine blk_put (cs := #[.int .i64 t191, .int .i64 0, .int .i64 0, .slice none 0 0, .slice none 0 0]) ?_ 1 _ rfl; (with_reducible repeat (first | refine blk_drewN ?_ _ | refine blk_drew ?_ | refine blk_alloc ?_ _)); refine blk_put (cs := #[.int .i64 0, .int .i64 0, .int .i64 0, .slice none 0 0, .slice none 0 0]) ?_ 0 _ rfl; (with_reducible repeat (first | refine blk_drewN ?_ _ | refine blk_drew ?_ | refine blk_alloc ?_ _)); exact BK204.out⟩
         have n11_ : Aside0 (Below w.heap.size w (((((w34.setCell ⟨gb204, 0, none⟩ (.int .i64 t191)).setCell ⟨gb204, 1, none⟩ (.int .i64 t192)).setCell ⟨gb204, 2, none⟩ (.int .i64 t193)).setCell ⟨gb204, 3, none⟩ (.slice Ao40 t194.length co40)).setCell ⟨gb204, 4, none⟩ (.slice Ao41 t197.length co41))) := ⟨pB HB⟩
         (try clear HO_12)
         (try clear HO_189003)
         (try clear HO_189004)
         (try clear HO196)
         (try clear HO199)
         (try clear HO202)
         (try clear BK176)
         (try clear BK177)
         (try clear BK188)
         (try clear BK190)
         (try clear BK204)
         (try clear HB)
         generalize (((((w34.setCell ⟨gb204, 0, none⟩ (.int .i64 t191)).setCell ⟨gb204, 1, none⟩ (.int .i64 t192)).setCell ⟨gb204, 2, none⟩ (.int .i64 t193)).setCell ⟨gb204, 3, none⟩ (.slice Ao40 t194.length co40)).setCell ⟨gb204, 4, none⟩ (.slice Ao41 t197.length co41)) = w42 at n0_ n1_ n2_ n3_ n4_ n5_ n6_ n7_ n8_ n9_ n10_ n11_ ⊢
         have HO_12 := n0_
         have HO_189003 := n1_
         have HO_189004 := n2_
         have HO196 := n3_
         have HO199 := n4_
         have HO202 := n5_
         have BK176 := n6_
         have BK177 := n7_
         have BK188 := n8_
         have BK190 := n9_
         have BK204 := n10_
         have HB := n11_
         clear n0_ n1_ n2_ n3_ n4_ n5_ n6_ n7_ n8_ n9_ n10_ n11_
         have n0_ := Aside0.mk (Kd.R_drew HO_12.out)
         have n1_ := Aside0.mk (Kd.R_drew HO_189003.out)
         have n2_ := Aside0.mk (Kd.R_drew HO_189004.out)
         have n3_ := Aside0.mk (Kd.R_drew HO196.out)
         have n4_ := Aside0.mk (Kd.R_drew HO199.out)
         have n5_ := Aside0.mk (Kd.R_drew HO202.out)
         have n6_ := Aside0.mk (blk_drew BK176.out)
         have n7_ := Aside0.mk (blk_drew BK177.out)
         have n8_ := Aside0.mk (blk_drew BK188.out)
         have n9_ := Aside0.mk (blk_drew BK190.out)
         have n10_ := Aside0.mk (blk_drew BK204.out)
         have n11_ := Aside0.mk (below_drew1 HB.out)
         clear HO_12
         clear HO_189003
         clear HO_189004
         clear HO196
         clear HO199
         clear HO202
         clear BK176
         clear BK177
         clear BK188
         clear BK190
         clear BK204
         clear HB
         have HO_12 := n0_
         have HO_189003 := n1_
         have HO_189004 := n2_
         have HO196 := n3_
         have HO199 := n4_
         have HO202 := n5_
         have BK176 := n6_
         have BK177 := n7_
         have BK188 := n8_
         have BK190 := n9_
         have BK204 := n10_
         have HB := n11_
         clear n0_ n1_ n2_ n3_ n4_ n5_ n6_ n7_ n8_ n9_ n10_ n11_
         obtain ⟨Ao45, co45, eo45⟩ := Kd.R_slice HO202.out
         (first | subst eo45 | (injection eo45 with f1_ f2_ f3_; have f4_ := f1_.symm; have f5_ := f3_.symm; clear f1_ f2_ f3_; subst f4_; subst f5_))
         refine start_ (n := 6) (S := fun w' => w'.cell? ⟨gb204, 0, none⟩ = some (.int .i64 t191) ∧ w'.cell? ⟨gb204, 1, none⟩ = some (.int .i64 t192) ∧ w'.cell? ⟨gb204, 2, none⟩ = some (.int .i64 t193) ∧ w'.cell? ⟨gb204, 3, none⟩ = some (.slice Ao40 t194.length co40) ∧ w'.cell? ⟨gb204, 4, none⟩ = some (.slice Ao41 t197.length co41)) (ds := []) #[false, false, false, false, false, false] (by kernel_rfl) rfl rfl ⟨(blk_cell BK204.out 0).trans rfl, (blk_cell BK204.out 1).trans rfl, (blk_cell BK204.out 2).trans rfl, (blk_cell BK204.out 3).trans rfl, (blk_cell BK204.out 4).trans rfl⟩ (fun hHeld => ?_)
         generalize w42.drew = w43 at HO_12 HO_189003 HO_189004 HO196 HO199 HO202 BK176 BK177 BK188 BK190 BK204 HB hHeld ⊢
         refine pure_ (i := 1) (N := some 48) (v := ?_) (a' := ?_) #[false, true, false, false, false, false] rfl rfl (by kernel_rfl) (fun _ _ _ h => h) (Or.inl ⟨by rfl, ?_⟩) ?_ ?_
         rotate_left
         ·intro w'
          go_simp
          with_reducible rfl
         rotate_left
         ·simp only [Act.put, List.setIfInBounds_toArray, List.set_cons_zero, List.set_cons_succ, i64_w, i32_w]
          rfl
         refine pure_ (i := 2) (N := some 49) (v := ?_) (a' := ?_) #[false, true, true, false, false, false] rfl rfl (by kernel_rfl) (fun _ _ _ h => h) (Or.inl ⟨by rfl, ?_⟩) ?_ ?_
         rotate_left
         ·intro w'
          go_simp
          with_reducible rfl
         rotate_left
         ·simp only [Act.put, List.setIfInBounds_toArray, List.set_cons_zero, List.set_cons_succ, i64_w, i32_w]
          rfl
         refine take_ (i := 0) (N := some 47) (v := ?_) (a' := ?_) #[true, true, true, false, false, false] rfl rfl (by kernel_rfl) (fun _ _ _ h => h) (Or.inl ⟨by rfl, ?_⟩) hHeld ?_ ?_
         rotate_left
         ·rintro w' ⟨s0, s1, s2, s3, s4⟩
          go_simp
          with_reducible rfl
         rotate_left
         ·simp only [Act.put, List.setIfInBounds_toArray, List.set_cons_zero, List.set_cons_succ, i64_w, i32_w]
          rfl
         refine one_ (i := 3) (N := some 50) #[true, true, true, true, false, false] rfl rfl (by kernel_rfl) (by decide) (fun K hK => ?_)
         refine Kd.R_append_rows_step k52 (w0 := w) w.heap.size (by rfl) (.tmp 48) (.tmp 49) 32 52 (.agg #[(.int .i64 0), (.int .i64 0), (.int .i64 0)]) 24 rfl Try.underlying32 info52 rfl (by decide) (by omega) u12 x12_1 t200 _ _ _ (fun k_ => some k_ ≠ (.slice Ao45 t200.length co45 : Value).ownBlock) (fun _ => False) rfl rfl ?aO ?aR (fun _ _ h => h) (fun _ h => h.elim) ?aF ?aB ?aS ?aL ?_
         (case aR => repeat (first | exact (Kd.R_reads' HO202.out).2.2 | (with_reducible refine Kd.C_alloc ?_ _) | (with_reducible refine Kd.C_drewN ?_ _) | (with_reducible refine Kd.C_drew ?_)))
         (case aB => exact (pB HB))
         (case aF => exact (fun k_ hk => Kd.fresh' (Kd.R_lt (by (with_reducible repeat (first | apply Kd.R_alloc | apply Kd.R_drewN | apply Kd.R_drew)); exact HO202.out)) k_ hk))
         (case aO => exact (by (with_reducible repeat (first | apply Kd.R_alloc | apply Kd.R_drewN | apply Kd.R_drew)); exact HO_12.out))
         (case aS => exact (below_size (pB HB)))
         (case aL => have := LMc22.out; omega)
         intro v206 w44 ho hb hg hat
         rw [← Ny205.out] at ho
         have n0_ := Aside0.mk (Kd.R_over' (by (with_reducible repeat (first | apply Kd.R_alloc | apply Kd.R_drewN | apply Kd.R_drew)); exact HO_189003.out) (Kd.R_typed (by (with_reducible repeat (first | apply Kd.R_alloc | apply Kd.R_drewN | apply Kd.R_drew)); exact HO_12.out)) (by decide) hg)
         have n1_ := Aside0.mk (Kd.R_over' (by (with_reducible repeat (first | apply Kd.R_alloc | apply Kd.R_drewN | apply Kd.R_drew)); exact HO_189004.out) (Kd.R_typed (by (with_reducible repeat (first | apply Kd.R_alloc | apply Kd.R_drewN | apply Kd.R_drew)); exact HO_12.out)) (by decide) hg)
         have n2_ := Aside0.mk (blk_grown (g := gb176) (o := .cells #[.int .i64 a1_0, .int .i64 a1_1, .slice A1_2 l1_2.length c1_2] 27 (0, 0)) (by (with_reducible repeat (first | refine blk_drewN ?_ _ | refine blk_drew ?_ | refine blk_alloc ?_ _)); exact BK176.out) hg (Kd.R_ne HO_12.out BK176.out (by decide)))
         have n3_ := Aside0.mk (blk_grown (g := gb177) (o := .cells #[.int .i64 x178000_1, .int .i64 x178001_1, .int .i64 x178002_1, .slice none 0 0, .slice none 0 0] 30 (0, 0)) (by (with_reducible repeat (first | refine blk_drewN ?_ _ | refine blk_drew ?_ | refine blk_alloc ?_ _)); exact BK177.out) hg (Kd.R_ne HO_12.out BK177.out (by decide)))
         have n4_ := Aside0.mk (blk_grown (g := gb188) (o := .cells #[.int .i64 x189000_1, .int .i64 x189001_1, .int .i64 x189002_1, .slice Ao31 x189003_1.length co31, .slice Ao32 x189004_1.length co32] 30 (0, 0)) (by (with_reducible repeat (first | refine blk_drewN ?_ _ | refine blk_drew ?_ | refine blk_alloc ?_ _)); exact BK188.out) hg (Kd.R_ne HO_12.out BK188.out (by decide)))
         have n5_ := Aside0.mk (blk_grown (g := gb190) (o := .cells #[.int .i64 ((rd_T47 l2 x30_1).f0), .int .i64 ((rd_T47 l2 x30_1).f1), .int .i64 ((rd_T47 l2 x30_1).f2), .int .i64 ((rd_T47 l2 x30_1).f3)] 47 (0, 0)) (by (with_reducible repeat (first | refine blk_drewN ?_ _ | refine blk_drew ?_ | refine blk_alloc ?_ _)); exact BK190.out) hg (Kd.R_ne HO_12.out BK190.out (by decide)))
         have n6_ := Aside0.mk (Kd.R_over' (by (with_reducible repeat (first | apply Kd.R_alloc | apply Kd.R_drewN | apply Kd.R_drew)); exact HO196.out) (Kd.R_typed (by (with_reducible repeat (first | apply Kd.R_alloc | apply Kd.R_drewN | apply Kd.R_drew)); exact HO_12.out)) (by decide) hg)
         have n7_ := Aside0.mk (Kd.R_over' (by (with_reducible repeat (first | apply Kd.R_alloc | apply Kd.R_drewN | apply Kd.R_drew)); exact HO199.out) (Kd.R_typed (by (with_reducible repeat (first | apply Kd.R_alloc | apply Kd.R_drewN | apply Kd.R_drew)); exact HO_12.out)) (by decide) hg)
         have n8_ := Aside0.mk (Kd.R_after (ok := (fun _ => True)) (by (with_reducible repeat (first | apply Kd.R_alloc | apply Kd.R_drewN | apply Kd.R_drew)); exact Kd.R_mono HO202.out (fun _ hk => ⟨trivial, hk⟩)) hg hat)
         have n9_ := Aside0.mk (blk_grown (g := gb204) (o := .cells #[.int .i64 t191, .int .i64 t192, .int .i64 t193, .slice Ao40 t194.length co40, .slice Ao41 t197.length co41] 30 (0, 0)) (by (with_reducible repeat (first | refine blk_drewN ?_ _ | refine blk_drew ?_ | refine blk_alloc ?_ _)); exact BK204.out) hg (Kd.R_ne HO_12.out BK204.out (by decide)))
         have n10_ := Aside0.mk (hb)
         have n11_ := Aside0.mk (ho)
         clear HO_189003
         clear HO_189004
         clear BK176
         clear BK177
         clear BK188
         clear BK190
         clear HO196
         clear HO199
         clear HO202
         clear BK204
         clear HB
         clear HO_12
         have HO_189003 := n0_
         have HO_189004 := n1_
         have BK176 := n2_
         have BK177 := n3_
         have BK188 := n4_
         have BK190 := n5_
         have HO196 := n6_
         have HO199 := n7_
         have HO202 := n8_
         have BK204 := n9_
         have HB := n10_
         have HO207 := n11_
         clear n0_ n1_ n2_ n3_ n4_ n5_ n6_ n7_ n8_ n9_ n10_ n11_
         clear ho hb hg hat
         refine hK.out _ _ ⟨(blk_cell BK204.out 0).trans rfl, (blk_cell BK204.out 1).trans rfl, (blk_cell BK204.out 2).trans rfl, (blk_cell BK204.out 3).trans rfl, (blk_cell BK204.out 4).trans rfl⟩ (fun hHeld => ?_)
         clear hK K
         refine norm_ (a' := ?_) ?_ ?_
         rotate_left
         ·show Act.put _ (some 50) _ = _
          simp only [Act.put, List.setIfInBounds_toArray, List.set_cons_zero, List.set_cons_succ, i64_w, i32_w]
          rfl
         refine one_ (i := 4) (N := none) #[true, true, true, true, true, false] rfl rfl (by kernel_rfl) (by decide) (fun K hK => ?_)
         have hs46 : w44.cell? ⟨gb188, 0, none⟩ = some (.int .i64 x189000_1) := (blk_cell BK188.out 0).trans rfl
         have hfs46 := blk_frozen BK188.out 0
         have hns46_0 := NB176_188.out
         have hns46_1 := NB177_188.out
         have hns46_3 := NB190_188.out
         have hns46_4 := NB204_188.out
         have hms46_0 := NB188_176.out
         have hms46_1 := NB188_177.out
         have hms46_3 := NB188_190.out
         have hms46_4 := NB188_204.out
         have hs47 : w44.cell? ⟨gb188, 1, none⟩ = some (.int .i64 x189001_1) := (blk_cell BK188.out 1).trans rfl
         have hfs47 := blk_frozen BK188.out 1
         have hns47_0 := NB176_188.out
         have hns47_1 := NB177_188.out
         have hns47_3 := NB190_188.out
         have hns47_4 := NB204_188.out
         have hms47_0 := NB188_176.out
         have hms47_1 := NB188_177.out
         have hms47_3 := NB188_190.out
         have hms47_4 := NB188_204.out
         have hs48 : w44.cell? ⟨gb188, 2, none⟩ = some (.int .i64 x189002_1) := (blk_cell BK188.out 2).trans rfl
         have hfs48 := blk_frozen BK188.out 2
         have hns48_0 := NB176_188.out
         have hns48_1 := NB177_188.out
         have hns48_3 := NB190_188.out
         have hns48_4 := NB204_188.out
         have hms48_0 := NB188_176.out
         have hms48_1 := NB188_177.out
         have hms48_3 := NB188_190.out
         have hms48_4 := NB188_204.out
         have hs49 : w44.cell? ⟨gb188, 3, none⟩ = some (.slice Ao31 x189003_1.length co31) := (blk_cell BK188.out 3).trans rfl
         have hfs49 := blk_frozen BK188.out 3
         have hns49_0 := NB176_188.out
         have hns49_1 := NB177_188.out
         have hns49_3 := NB190_188.out
         have hns49_4 := NB204_188.out
         have hms49_0 := NB188_176.out
         have hms49_1 := NB188_177.out
         have hms49_3 := NB188_190.out
         have hms49_4 := NB188_204.out
         have hs50 : w44.cell? ⟨gb188, 4, none⟩ = some (.slice Ao32 x189004_1.length co32) := (blk_cell BK188.out 4).trans rfl
         have hfs50 := blk_frozen BK188.out 4
         have hns50_0 := NB176_188.out
         have hns50_1 := NB177_188.out
         have hns50_3 := NB190_188.out
         have hns50_4 := NB204_188.out
         have hms50_0 := NB188_176.out
         have hms50_1 := NB188_177.out
         have hms50_3 := NB188_190.out
         have hms50_4 := NB188_204.out
         refine skip_ (w1 := ?_) (by rfl) rfl ?_ ?_
         rotate_left
         ·go_simp
          rfl
         refine hK.out _ _ ⟨((cell_far (p := ⟨gb188, _, none⟩) NB204_188.out _).trans (((cell_far (p := ⟨gb188, _, none⟩) NB204_188.out _).trans (((cell_far (p := ⟨gb188, _, none⟩) NB204_188.out _).trans (((cell_far (p := ⟨gb188, _, none⟩) NB204_188.out _).trans (((cell_far (p := ⟨gb188, _, none⟩) NB204_188.out _).trans (hHeld.1)))))))))), ((cell_far (p := ⟨gb188, _, none⟩) NB204_188.out _).trans (((cell_far (p := ⟨gb188, _, none⟩) NB204_188.out _).trans (((cell_far (p := ⟨gb188, _, none⟩) NB204_188.out _).trans (((cell_far (p := ⟨gb188, _, none⟩) NB204_188.out _).trans (((cell_far (p := ⟨gb188, _, none⟩) NB204_188.out _).trans (hHeld.2.1)))))))))), ((cell_far (p := ⟨gb188, _, none⟩) NB204_188.out _).trans (((cell_far (p := ⟨gb188, _, none⟩) NB204_188.out _).trans (((cell_far (p := ⟨gb188, _, none⟩) NB204_188.out _).trans (((cell_far (p := ⟨gb188, _, none⟩) NB204_188.out _).trans (((cell_far (p := ⟨gb188, _, none⟩) NB204_188.out _).trans (hHeld.2.2.1)))))))))), ((cell_far (p := ⟨gb188, _, none⟩) NB204_188.out _).trans (((cell_far (p := ⟨gb188, _, none⟩) NB204_188.out _).trans (((cell_far (p := ⟨gb188, _, none⟩) NB204_188.out _).trans (((cell_far (p := ⟨gb188, _, none⟩) NB204_188.out _).trans (((cell_far (p := ⟨gb188, _, none⟩) NB204_188.out _).trans (hHeld.2.2.2.1)))))))))), ((cell_far (p := ⟨gb188, _, none⟩) NB204_188.out _).trans (((cell_far (p := ⟨gb188, _, none⟩) NB204_188.out _).trans (((cell_far (p := ⟨gb188, _, none⟩) NB204_188.out _).trans (((cell_far (p := ⟨gb188, _, none⟩) NB204_188.out _).trans (((cell_far (p := ⟨gb188, _, none⟩) NB204_188.out _).trans (hHeld.2.2.2.2))))))))))⟩ (fun hHeld => ?_)
         clear hK K
         refine pure_ (i := 5) (N := some 12) (v := ?_) (a' := ?_) #[true, true, true, true, true, true] rfl rfl (by kernel_rfl) (fun _ _ _ h => h) (Or.inl ⟨by rfl, ?_⟩) ?_ ?_
         rotate_left
         ·intro w'
          go_simp
          with_reducible rfl
         rotate_left
         ·simp only [Act.put, List.setIfInBounds_toArray, List.set_cons_zero, List.set_cons_succ, i64_w, i32_w]
          rfl
         refine done_ (by kernel_rfl) ?_
         try go_wp2
         go_roundg k1
         case measure => have := HK1.out; omega
         case rel => exact ⟨(y205), (wrap64 (x30_1 + 1)), (x178000_1), (x178001_1), (x178002_1), (t191), (t192), (t193), (t194), (t197), (.slice Ao40 t194.length co40), (.slice Ao41 t197.length co41), (by first | rfl | (simp; done) | (simp [*]; done)), H', ⟨by have := HK1.out; omega⟩, ⟨by (with_reducible repeat (first | apply Kd.R_alloc | apply Kd.R_drewN | apply Kd.R_drew)); exact Kd.R_mono (Kd.R_far (p := ⟨gb188, 4, none⟩) (Kd.R_far (p := ⟨gb188, 3, none⟩) (Kd.R_far (p := ⟨gb188, 2, none⟩) (Kd.R_far (p := ⟨gb188, 1, none⟩) (Kd.R_far (p := ⟨gb188, 0, none⟩) (Kd.R_types HO207.out BK188.out (by decide)) (fun _ hk => hk.2) (.int .i64 t191)) (fun _ hk => hk.2) (.int .i64 t192)) (fun _ hk => hk.2) (.int .i64 t193)) (fun _ hk => hk.2) (.slice Ao40 t194.length co40)) (fun _ hk => hk.2) (.slice Ao41 t197.length co41)) (fun _ hk => trivial)⟩, ⟨by (with_reducible repeat (first | apply Kd.R_alloc | apply Kd.R_drewN | apply Kd.R_drew)); exact Kd.R_mono (Kd.R_far (p := ⟨gb188, 4, none⟩) (Kd.R_far (p := ⟨gb188, 3, none⟩) (Kd.R_far (p := ⟨gb188, 2, none⟩) (Kd.R_far (p := ⟨gb188, 1, none⟩) (Kd.R_far (p := ⟨gb188, 0, none⟩) (Kd.R_types HO196.out BK188.out (by decide)) (fun _ hk => hk.2) (.int .i64 t191)) (fun _ hk => hk.2) (.int .i64 t192)) (fun _ hk => hk.2) (.int .i64 t193)) (fun _ hk => hk.2) (.slice Ao40 t194.length co40)) (fun _ hk => hk.2) (.slice Ao41 t197.length co41)) (fun _ hk => trivial)⟩, ⟨by (with_reducible repeat (first | apply Kd.R_alloc | apply Kd.R_drewN | apply Kd.R_drew)); exact Kd.R_mono (Kd.R_far (p := ⟨gb188, 4, none⟩) (Kd.R_far (p := ⟨gb188, 3, none⟩) (Kd.R_far (p := ⟨gb188, 2, none⟩) (Kd.R_far (p := ⟨gb188, 1, none⟩) (Kd.R_far (p := ⟨gb188, 0, none⟩) (Kd.R_types HO199.out BK188.out (by decide)) (fun _ hk => hk.2) (.int .i64 t191)) (fun _ hk => hk.2) (.int .i64 t192)) (fun _ hk => hk.2) (.int .i64 t193)) (fun _ hk => hk.2) (.slice Ao40 t194.length co40)) (fun _ hk => hk.2) (.slice Ao41 t197.length co41)) (fun _ hk => trivial)⟩, ⟨by (with_reducible repeat (first | refine blk_drewN ?_ _ | refine blk_drew ?_ | refine blk_alloc ?_ _)); refine blk_far ?_ NB176_188.out _; (with_reducible repeat (first | refine blk_drewN ?_ _ | refine blk_drew ?_ | refine blk_alloc ?_ _)); refine blk_far ?_ NB176_188.out _; (with_reducible repeat (first | refine blk_drewN ?_ _ | refine blk_drew ?_ | refine blk_alloc ?_ _)); refine blk_far ?_ NB176_188.out _; (with_reducible repeat (first | refine blk_drewN ?_ _ | refine blk_drew ?_ | refine blk_alloc ?_ _)); refine blk_far ?_ NB176_188.out _; (with_reducible repeat (first | refine blk_drewN ?_ _ | refine blk_drew ?_ | refine blk_alloc ?_ _)); refine blk_far ?_ NB176_188.out _; (with_reducible repeat (first | refine blk_drewN ?_ _ | refine blk_drew ?_ | refine blk_alloc ?_ _)); exact BK176.out⟩, ⟨by (with_reducible repeat (first | refine blk_drewN ?_ _ | refine blk_drew ?_ | refine blk_alloc ?_ _)); refine blk_far ?_ NB177_188.out _; (with_reducible repeat (first | refine blk_drewN ?_ _ | refine blk_drew ?_ | refine blk_alloc ?_ _)); refine blk_far ?_ NB177_188.out _; (with_reducible repeat (first | refine blk_drewN ?_ _ | refine blk_drew ?_ | refine blk_alloc ?_ _)); refine blk_far ?_ NB177_188.out _; (with_reducible repeat (first | refine blk_drewN ?_ _ | refine blk_drew ?_ | refine blk_alloc ?_ _)); refine blk_far ?_ NB177_188.out _; (with_reducible repeat (first | refine blk_drewN ?_ _ | refine blk_drew ?_ | refine blk_alloc ?_ _)); refine blk_far ?_ NB177_188.out _; (with_reducible repeat (first | refine blk_drewN ?_ _ | refine blk_drew ?_ | refine blk_alloc ?_ _)); exact BK177.out⟩, ⟨by (with_reducible repeat (first | refine blk_drewN ?_ _ | refine blk_drew ?_ | refine blk_alloc ?_ _)); refine blk_put (cs := #[.int .i64 t191, .int .i64 t192, .int .i64 t193, .slice Ao40 t194.length co40, .slice Ao32 x189004_1.length co32]) ?_ 4 _ rfl; (with_reducible repeat (first | refine blk_drewN ?_ _ | refine blk_drew ?_ | refine blk_alloc ?_ _)); refine blk_put (cs := #[.int .i64 t191, .int .i64 t192, .int .i64 t193, .slice Ao31 x189003_1.length co31, .slice Ao32 x189004_1.length co32]) ?_ 3 _ rfl; (with_reducible repeat (first | refine blk_drewN ?_ _ | refine blk_drew ?_ | refine blk_alloc ?_ _)); refine blk_put (cs := #[.int .i64 t191, .int .i64 t192, .int .i64 x189002_1, .slice Ao31 x189003_1.length co31, .slice Ao32 x189004_1.length co32]) ?_ 2 _ rfl; (with_reducible repeat (first | refine blk_drewN ?_ _ | refine blk_drew ?_ | refine blk_alloc ?_ _)); refine blk_put (cs := #[.int .i64 t191, .int .i64 x189001_1, .int .i64 x189002_1, .slice Ao31 x189003_1.length co31, .slice Ao32 x189004_1.length co32]) ?_ 1 _ rfl; (with_reducible repeat (first | refine blk_drewN ?_ _ | refine blk_drew ?_ | refine blk_alloc ?_ _)); refine blk_put (cs := #[.int .i64 x189000_1, .int .i64 x189001_1, .int .i64 x189002_1, .slice Ao31 x189003_1.length co31, .slice Ao32 x189004_1.length co32]) ?_ 0 _ rfl; (with_reducible repeat (first | refine blk_drewN ?_ _ | refine blk_drew ?_ | refine blk_alloc ?_ _)); exact BK188.out⟩, ⟨pB HB⟩⟩
        ·rw [if_neg c22] at H
         exact absurd H (by simp)
       ·rw [if_neg c21] at H
        have c21b0 : (t203 == 0) = false := beq_eq_false_iff_ne.mpr c21
        have c21b1 : (t203 != 0) = true := bne_iff_ne.mpr c21
        simp only [Option.some.injEq, Prod.mk.injEq] at H
        obtain ⟨rfl, rfl, rfl, rfl, rfl, rfl, rfl, rfl⟩ := H
        have p189 : 0 ≤ (x30_1 : Int) := of_decide_eq_true (by first | (with_reducible assumption) | assumption)
        have q189 : x30_1 < (l2.length : Int) := of_decide_eq_true (by first | (with_reducible assumption) | assumption)
        obtain ⟨ad189, e189, hx189_0, hx189_1, hx189_2, hx189_3⟩ := at_T47 HR2.out x30_1 p189 q189
        cases e189
        replace hx189_0 := (HB.out.cell (World.block_lt_of_cell? w _ hx189_0)).trans hx189_0
        replace hx189_1 := (HB.out.cell (World.block_lt_of_cell? w _ hx189_1)).trans hx189_1
        replace hx189_2 := (HB.out.cell (World.block_lt_of_cell? w _ hx189_2)).trans hx189_2
        replace hx189_3 := (HB.out.cell (World.block_lt_of_cell? w _ hx189_3)).trans hx189_3
        replace p189 := eq_true p189
        replace q189 := eq_true q189
        go_wp2_with (first | ((with_reducible refine gate_dst (N := 14) rfl ?_); refine box_event ?hg (N := 14) ?hd (cs := #[.int .i64 0, .int .i64 0, .int .i64 0, .int .i64 0]) (t := 47) ?hr ?_; (case hd => rfl); (case hg => rfl); (case hr => first | (go_simp; done) | (go_simp; rfl)); intro gb190 hg w51 hbox hb; have n0_ := rB HO_12 hb; have n1_ := rB HO_189003 hb; have n2_ := rB HO_189004 hb; have n3_ := bB BK176 hb; have n4_ := bB BK177 hb; have n5_ := bB BK188 hb; have n6_ := Aside0.mk (below_step (pB HB) hb); have n7_ := Aside0.mk (hbox); have n8_ := Aside0.mk ((by rw [hg]; exact (below_size (pB HB)) : w.heap.size ≤ gb190)); have n9_ := Aside0.mk ((by rw [hg]; exact (below_size (pB HB)) : w.heap.size ≤ gb190)); have n10_ := Aside0.mk ((by rw [hg]; exact Nat.ne_of_lt (blk_lt (g := gb176) (o := .cells #[.int .i64 a1_0, .int .i64 a1_1, .slice A1_2 l1_2.length c1_2] 27 (0, 0)) (by (with_reducible repeat (first | refine blk_drewN ?_ _ | refine blk_drew ?_ | refine blk_alloc ?_ _)); exact BK176.out)) : gb176 ≠ gb190)); have n11_ := Aside0.mk ((by rw [hg]; exact Nat.ne_of_gt (blk_lt (g := gb176) (o := .cells #[.int .i64 a1_0, .int .i64 a1_1, .slice A1_2 l1_2.length c1_2] 27 (0, 0)) (by (with_reducible repeat (first | refine blk_drewN ?_ _ | refine blk_drew ?_ | refine blk_alloc ?_ _)); exact BK176.out)) : gb190 ≠ gb176)); have n12_ := Aside0.mk ((by rw [hg]; exact Nat.ne_of_lt (blk_lt (g := gb177) (o := .cells #[.int .i64 x178000_1, .int .i64 x178001_1, .int .i64 x178002_1, .slice none 0 0, .slice none 0 0] 30 (0, 0)) (by (with_reducible repeat (first | refine blk_drewN ?_ _ | refine blk_drew ?_ | refine blk_alloc ?_ _)); exact BK177.out)) : gb177 ≠ gb190)); have n13_ := Aside0.mk ((by rw [hg]; exact Nat.ne_of_gt (blk_lt (g := gb177) (o := .cells #[.int .i64 x178000_1, .int .i64 x178001_1, .int .i64 x178002_1, .slice none 0 0, .slice none 0 0] 30 (0, 0)) (by (with_reducible repeat (first | refine blk_drewN ?_ _ | refine blk_drew ?_ | refine blk_alloc ?_ _)); exact BK177.out)) : gb190 ≠ gb177)); have n14_ := Aside0.mk ((by rw [hg]; exact Nat.ne_of_lt (blk_lt (g := gb188) (o := .cells #[.int .i64 x189000_1, .int .i64 x189001_1, .int .i64 x189002_1, u189003, u189004] 30 (0, 0)) (by (with_reducible repeat (first | refine blk_drewN ?_ _ | refine blk_drew ?_ | refine blk_alloc ?_ _)); exact BK188.out)) : gb188 ≠ gb190)); have n15_ := Aside0.mk ((by rw [hg]; exact Nat.ne_of_gt (blk_lt (g := gb188) (o := .cells #[.int .i64 x189000_1, .int .i64 x189001_1, .int .i64 x189002_1, u189003, u189004] 30 (0, 0)) (by (with_reducible repeat (first | refine blk_drewN ?_ _ | refine blk_drew ?_ | refine blk_alloc ?_ _)); exact BK188.out)) : gb190 ≠ gb188)); clear HO_12; clear HO_189003; clear HO_189004; clear BK176; clear BK177; clear BK188; clear HB; have HO_12 := n0_; have HO_189003 := n1_; have HO_189004 := n2_; have BK176 := n3_; have BK177 := n4_; have BK188 := n5_; have HB := n6_; have BK190 := n7_; have GW190 := n8_; have GE190 := n9_; have NB176_190 := n10_; have NB190_176 := n11_; have NB177_190 := n12_; have NB190_177 := n13_; have NB188_190 := n14_; have NB190_188 := n15_; clear n0_ n1_ n2_ n3_ n4_ n5_ n6_ n7_ n8_ n9_ n10_ n11_ n12_ n13_ n14_ n15_; clear hb hbox hg; have hnb52 := NB190_176.out; have hnc52 := NB176_190.out; have hnb53 := NB190_177.out; have hnc53 := NB177_190.out; have hnb54 := NB190_188.out; have hnc54 := NB188_190.out; obtain ⟨hcz55_0, hcz55_1, hcz55_2, hcz55_3⟩ := cells4 BK190; obtain ⟨hfz55_0, hfz55_1, hfz55_2, hfz55_3⟩ := frz4 BK190; have hnb56 := NB188_176.out; have hnc56 := NB176_188.out; have hnb57 := NB188_177.out; have hnc57 := NB177_188.out; obtain ⟨hcz58_0, hcz58_1, hcz58_2, hcz58_3, hcz58_4⟩ := cells5 BK188; obtain ⟨hfz58_0, hfz58_1, hfz58_2, hfz58_3, hfz58_4⟩ := frz5 BK188; obtain ⟨Ao59, co59, eo59⟩ := Kd.R_slice HO_189003.out; subst eo59; obtain ⟨Ao60, co60, eo60⟩ := Kd.R_slice HO_189004.out; subst eo60) | ((with_reducible refine gate_callee (f := 20) rfl ?_); refine goesL_ (some 38) rfl rfl Try.func20 (by kernel_rfl) rfl #[.agg #[.int .i64 x189000_1, .int .i64 x189001_1, .int .i64 x189002_1, .slice Ao59 x189003_1.length co59, .slice Ao60 x189004_1.length co60], .agg #[.int .i64 ((rd_T47 l2 x30_1).f0), .int .i64 ((rd_T47 l2 x30_1).f1), .int .i64 ((rd_T47 l2 x30_1).f2), .int .i64 ((rd_T47 l2 x30_1).f3)]] rfl (by (try simp only [List.map_toArray, List.map_cons, List.map_nil]); first | done | rfl | (simp only [List.length_drop, List.length_take]; rfl)) ?_; (with_reducible refine (docket_File.calls k1 x189000_1 x189001_1 x189002_1 _ _ x189003_1 _ _ x189004_1 ((rd_T47 l2 x30_1).f0) ((rd_T47 l2 x30_1).f1) ((rd_T47 l2 x30_1).f2) ((rd_T47 l2 x30_1).f3) t191 t192 t193 t194 t197 t200 t203 _ ?side1 ?side2 ?side3 ?side4 A20.out).mono ?_); (case side1 => refine (Kd.R_reads' (e := 3) (base := w.heap.size) (ok := fun k_ => True) (n := x189003_1.length) (c := co59) ?_).2.2; exact (by (with_reducible repeat (first | apply Kd.R_alloc | apply Kd.R_drewN | apply Kd.R_drew)); exact (Kd.R_mono (Kd.R_far (p := ⟨gb190, 3, none⟩) (Kd.R_far (p := ⟨gb190, 2, none⟩) (Kd.R_far (p := ⟨gb190, 1, none⟩) (Kd.R_far (p := ⟨gb190, 0, none⟩) (Kd.R_types HO_189003.out BK190.out (by decide)) (fun _ hk => hk.2) (.int .i64 ((rd_T47 l2 x30_1).f0))) (fun _ hk => hk.2) (.int .i64 ((rd_T47 l2 x30_1).f1))) (fun _ hk => hk.2) (.int .i64 ((rd_T47 l2 x30_1).f2))) (fun _ hk => hk.2) (.int .i64 ((rd_T47 l2 x30_1).f3))) (fun _ h_ => h_.1)))); (case side2 => exact (Kd.R_reads' HO_189003.out).2.1); (case side3 => refine (Kd.R_reads' (e := 50) (base := w.heap.size) (ok := fun k_ => True) (n := x189004_1.length) (c := co60) ?_).2.2; exact (by (with_reducible repeat (first | apply Kd.R_alloc | apply Kd.R_drewN | apply Kd.R_drew)); exact (Kd.R_mono (Kd.R_far (p := ⟨gb190, 3, none⟩) (Kd.R_far (p := ⟨gb190, 2, none⟩) (Kd.R_far (p := ⟨gb190, 1, none⟩) (Kd.R_far (p := ⟨gb190, 0, none⟩) (Kd.R_types HO_189004.out BK190.out (by decide)) (fun _ hk => hk.2) (.int .i64 ((rd_T47 l2 x30_1).f0))) (fun _ hk => hk.2) (.int .i64 ((rd_T47 l2 x30_1).f1))) (fun _ hk => hk.2) (.int .i64 ((rd_T47 l2 x30_1).f2))) (fun _ hk => hk.2) (.int .i64 ((rd_T47 l2 x30_1).f3))) (fun _ h_ => h_.1)))); (case side4 => exact (Kd.R_reads' HO_189004.out).2.1); rintro e w61 ⟨v195, v198, v201, rfl, ho0, ho1, ho2, hb⟩; refine ⟨_, rfl, ?_⟩; have n0_ := Aside0.mk (Kd.R_elder' (by (with_reducible repeat (first | apply Kd.R_alloc | apply Kd.R_drewN | apply Kd.R_drew)); exact (Kd.R_mono (Kd.R_far (p := ⟨gb190, 3, none⟩) (Kd.R_far (p := ⟨gb190, 2, none⟩) (Kd.R_far (p := ⟨gb190, 1, none⟩) (Kd.R_far (p := ⟨gb190, 0, none⟩) (Kd.R_types HO_12.out BK190.out (by decide)) (fun _ hk => hk.2) (.int .i64 ((rd_T47 l2 x30_1).f0))) (fun _ hk => hk.2) (.int .i64 ((rd_T47 l2 x30_1).f1))) (fun _ hk => hk.2) (.int .i64 ((rd_T47 l2 x30_1).f2))) (fun _ hk => hk.2) (.int .i64 ((rd_T47 l2 x30_1).f3))) (fun _ h_ => h_.1))) (Kd.R_base ho2) hb); have n1_ := Aside0.mk (Kd.R_elder' (by (with_reducible repeat (first | apply Kd.R_alloc | apply Kd.R_drewN | apply Kd.R_drew)); exact (Kd.R_mono (Kd.R_far (p := ⟨gb190, 3, none⟩) (Kd.R_far (p := ⟨gb190, 2, none⟩) (Kd.R_far (p := ⟨gb190, 1, none⟩) (Kd.R_far (p := ⟨gb190, 0, none⟩) (Kd.R_types HO_189003.out BK190.out (by decide)) (fun _ hk => hk.2) (.int .i64 ((rd_T47 l2 x30_1).f0))) (fun _ hk => hk.2) (.int .i64 ((rd_T47 l2 x30_1).f1))) (fun _ hk => hk.2) (.int .i64 ((rd_T47 l2 x30_1).f2))) (fun _ hk => hk.2) (.int .i64 ((rd_T47 l2 x30_1).f3))) (fun _ h_ => h_.1))) (Kd.R_base ho0) hb); have n2_ := Aside0.mk (Kd.R_elder' (by (with_reducible repeat (first | apply Kd.R_alloc | apply Kd.R_drewN | apply Kd.R_drew)); exact (Kd.R_mono (Kd.R_far (p := ⟨gb190, 3, none⟩) (Kd.R_far (p := ⟨gb190, 2, none⟩) (Kd.R_far (p := ⟨gb190, 1, none⟩) (Kd.R_far (p := ⟨gb190, 0, none⟩) (Kd.R_types HO_189004.out BK190.out (by decide)) (fun _ hk => hk.2) (.int .i64 ((rd_T47 l2 x30_1).f0))) (fun _ hk => hk.2) (.int .i64 ((rd_T47 l2 x30_1).f1))) (fun _ hk => hk.2) (.int .i64 ((rd_T47 l2 x30_1).f2))) (fun _ hk => hk.2) (.int .i64 ((rd_T47 l2 x30_1).f3))) (fun _ h_ => h_.1))) (Kd.R_base ho1) hb); have n3_ := Aside0.mk (Kd.R_lower (Kd.R_new' ho0 (Kd.R_lt (by (with_reducible repeat (first | apply Kd.R_alloc | apply Kd.R_drewN | apply Kd.R_drew)); exact (Kd.R_mono (Kd.R_far (p := ⟨gb190, 3, none⟩) (Kd.R_far (p := ⟨gb190, 2, none⟩) (Kd.R_far (p := ⟨gb190, 1, none⟩) (Kd.R_far (p := ⟨gb190, 0, none⟩) (Kd.R_types HO_189003.out BK190.out (by decide)) (fun _ hk => hk.2) (.int .i64 ((rd_T47 l2 x30_1).f0))) (fun _ hk => hk.2) (.int .i64 ((rd_T47 l2 x30_1).f1))) (fun _ hk => hk.2) (.int .i64 ((rd_T47 l2 x30_1).f2))) (fun _ hk => hk.2) (.int .i64 ((rd_T47 l2 x30_1).f3))) (fun _ h_ => h_.1))))) (below_size (pB HB))); have n4_ := Aside0.mk (Kd.R_lower (Kd.R_new' ho1 (Kd.R_lt (by (with_reducible repeat (first | apply Kd.R_alloc | apply Kd.R_drewN | apply Kd.R_drew)); exact (Kd.R_mono (Kd.R_far (p := ⟨gb190, 3, none⟩) (Kd.R_far (p := ⟨gb190, 2, none⟩) (Kd.R_far (p := ⟨gb190, 1, none⟩) (Kd.R_far (p := ⟨gb190, 0, none⟩) (Kd.R_types HO_189004.out BK190.out (by decide)) (fun _ hk => hk.2) (.int .i64 ((rd_T47 l2 x30_1).f0))) (fun _ hk => hk.2) (.int .i64 ((rd_T47 l2 x30_1).f1))) (fun _ hk => hk.2) (.int .i64 ((rd_T47 l2 x30_1).f2))) (fun _ hk => hk.2) (.int .i64 ((rd_T47 l2 x30_1).f3))) (fun _ h_ => h_.1))))) (below_size (pB HB))); have n5_ := Aside0.mk (Kd.R_lower (Kd.R_new' ho2 (Kd.R_lt (by (with_reducible repeat (first | apply Kd.R_alloc | apply Kd.R_drewN | apply Kd.R_drew)); exact (Kd.R_mono (Kd.R_far (p := ⟨gb190, 3, none⟩) (Kd.R_far (p := ⟨gb190, 2, none⟩) (Kd.R_far (p := ⟨gb190, 1, none⟩) (Kd.R_far (p := ⟨gb190, 0, none⟩) (Kd.R_types HO_12.out BK190.out (by decide)) (fun _ hk => hk.2) (.int .i64 ((rd_T47 l2 x30_1).f0))) (fun _ hk => hk.2) (.int .i64 ((rd_T47 l2 x30_1).f1))) (fun _ hk => hk.2) (.int .i64 ((rd_T47 l2 x30_1).f2))) (fun _ hk => hk.2) (.int .i64 ((rd_T47 l2 x30_1).f3))) (fun _ h_ => h_.1))))) (below_size (pB HB))); have n6_ := Aside0.mk (blk_below (g := gb176) (o := .cells #[.int .i64 a1_0, .int .i64 a1_1, .slice A1_2 l1_2.length c1_2] 27 (0, 0)) (by (with_reducible repeat (first | refine blk_drewN ?_ _ | refine blk_drew ?_ | refine blk_alloc ?_ _)); refine blk_far ?_ NB176_190.out _; (with_reducible repeat (first | refine blk_drewN ?_ _ | refine blk_drew ?_ | refine blk_alloc ?_ _)); refine blk_far ?_ NB176_190.out _; (with_reducible repeat (first | refine blk_drewN ?_ _ | refine blk_drew ?_ | refine blk_alloc ?_ _)); refine blk_far ?_ NB176_190.out _; (with_reducible repeat (first | refine blk_drewN ?_ _ | refine blk_drew ?_ | refine blk_alloc ?_ _)); refine blk_far ?_ NB176_190.out _; (with_reducible repeat (first | refine blk_drewN ?_ _ | refine blk_drew ?_ | refine blk_alloc ?_ _)); exact BK176.out) hb); have n7_ := Aside0.mk (blk_below (g := gb177) (o := .cells #[.int .i64 x178000_1, .int .i64 x178001_1, .int .i64 x178002_1, .slice none 0 0, .slice none 0 0] 30 (0, 0)) (by (with_reducible repeat (first | refine blk_drewN ?_ _ | refine blk_drew ?_ | refine blk_alloc ?_ _)); refine blk_far ?_ NB177_190.out _; (with_reducible repeat (first | refine blk_drewN ?_ _ | refine blk_drew ?_ | refine blk_alloc ?_ _)); refine blk_far ?_ NB177_190.out _; (with_reducible repeat (first | refine blk_drewN ?_ _ | refine blk_drew ?_ | refine blk_alloc ?_ _)); refine blk_far ?_ NB177_190.out _; (with_reducible repeat (first | refine blk_drewN ?_ _ | refine blk_drew ?_ | refine blk_alloc ?_ _)); refine blk_far ?_ NB177_190.out _; (with_reducible repeat (first | refine blk_drewN ?_ _ | refine blk_drew ?_ | refine blk_alloc ?_ _)); exact BK177.out) hb); have n8_ := Aside0.mk (blk_below (g := gb188) (o := .cells #[.int .i64 x189000_1, .int .i64 x189001_1, .int .i64 x189002_1, .slice Ao59 x189003_1.length co59, .slice Ao60 x189004_1.length co60] 30 (0, 0)) (by (with_reducible repeat (first | refine blk_drewN ?_ _ | refine blk_drew ?_ | refine blk_alloc ?_ _)); refine blk_far ?_ NB188_190.out _; (with_reducible repeat (first | refine blk_drewN ?_ _ | refine blk_drew ?_ | refine blk_alloc ?_ _)); refine blk_far ?_ NB188_190.out _; (with_reducible repeat (first | refine blk_drewN ?_ _ | refine blk_drew ?_ | refine blk_alloc ?_ _)); refine blk_far ?_ NB188_190.out _; (with_reducible repeat (first | refine blk_drewN ?_ _ | refine blk_drew ?_ | refine blk_alloc ?_ _)); refine blk_far ?_ NB188_190.out _; (with_reducible repeat (first | refine blk_drewN ?_ _ | refine blk_drew ?_ | refine blk_alloc ?_ _)); exact BK188.out) hb); have n9_ := Aside0.mk (blk_below (g := gb190) (o := .cells #[.int .i64 ((rd_T47 l2 x30_1).f0), .int .i64 ((rd_T47 l2 x30_1).f1), .int .i64 ((rd_T47 l2 x30_1).f2), .int .i64 ((rd_T47 l2 x30_1).f3)] 47 (0, 0)) (by (with_reducible repeat (first | refine blk_drewN ?_ _ | refine blk_drew ?_ | refine blk_alloc ?_ _)); refine blk_put (cs := #[.int .i64 ((rd_T47 l2 x30_1).f0), .int .i64 ((rd_T47 l2 x30_1).f1), .int .i64 ((rd_T47 l2 x30_1).f2), .int .i64 0]) ?_ 3 _ rfl; (with_reducible repeat (first | refine blk_drewN ?_ _ | refine blk_drew ?_ | refine blk_alloc ?_ _)); refine blk_put (cs := #[.int .i64 ((rd_T47 l2 x30_1).f0), .int .i64 ((rd_T47 l2 x30_1).f1), .int .i64 0, .int .i64 0]) ?_ 2 _ rfl; (with_reducible repeat (first | refine blk_drewN ?_ _ | refine blk_drew ?_ | refine blk_alloc ?_ _)); refine blk_put (cs := #[.int .i64 ((rd_T47 l2 x30_1).f0), .int .i64 0, .int .i64 0, .int .i64 0]) ?_ 1 _ rfl; (with_reducible repeat (first | refine blk_drewN ?_ _ | refine blk_drew ?_ | refine blk_alloc ?_ _)); refine blk_put (cs := #[.int .i64 0, .int .i64 0, .int .i64 0, .int .i64 0]) ?_ 0 _ rfl; (with_reducible repeat (first | refine blk_drewN ?_ _ | refine blk_drew ?_ | refine blk_alloc ?_ _)); exact BK190.out) hb); have n10_ := Aside0.mk (below_step (pB HB) hb); clear HO_12; clear HO_189003; clear HO_189004; clear BK176; clear BK177; clear BK188; clear BK190; clear HB; have HO_12 := n0_; have HO_189003 := n1_; have HO_189004 := n2_; have HO196 := n3_; have HO199 := n4_; have HO202 := n5_; have BK176 := n6_; have BK177 := n7_; have BK188 := n8_; have BK190 := n9_; have HB := n10_; clear n0_ n1_ n2_ n3_ n4_ n5_ n6_ n7_ n8_ n9_ n10_; (try clear hb); (try clear hb2); (try clear hk); (try clear hi); (try clear ho0); (try clear ho1); (try clear ho2)) | ((with_reducible refine gate_dst (N := 15) rfl ?_); refine box_event ?hg (N := 15) ?hd (cs := #[.int .i64 0, .int .i64 0, .int .i64 0, .slice none 0 0, .slice none 0 0]) (t := 30) ?hr ?_; (case hd => rfl); (case hg => rfl); (case hr => first | (go_simp; done) | (go_simp; rfl)); intro gb204 hg w62 hbox hb; have n0_ := rB HO_12 hb; have n1_ := rB HO_189003 hb; have n2_ := rB HO_189004 hb; have n3_ := rB HO196 hb; have n4_ := rB HO199 hb; have n5_ := rB HO202 hb; have n6_ := bB BK176 hb; have n7_ := bB BK177 hb; have n8_ := bB BK188 hb; have n9_ := bB BK190 hb; have n10_ := Aside0.mk (below_step (pB HB) hb); have n11_ := Aside0.mk (hbox); have n12_ := Aside0.mk ((by rw [hg]; exact (below_size (pB HB)) : w.heap.size ≤ gb204)); have n13_ := Aside0.mk ((by rw [hg]; exact (below_size (pB HB)) : w.heap.size ≤ gb204)); have n14_ := Aside0.mk ((by rw [hg]; exact Nat.ne_of_lt (blk_lt (g := gb176) (o := .cells #[.int .i64 a1_0, .int .i64 a1_1, .slice A1_2 l1_2.length c1_2] 27 (0, 0)) (by (with_reducible repeat (first | refine blk_drewN ?_ _ | refine blk_drew ?_ | refine blk_alloc ?_ _)); exact BK176.out)) : gb176 ≠ gb204)); have n15_ := Aside0.mk ((by rw [hg]; exact Nat.ne_of_gt (blk_lt (g := gb176) (o := .cells #[.int .i64 a1_0, .int .i64 a1_1, .slice A1_2 l1_2.length c1_2] 27 (0, 0)) (by (with_reducible repeat (first | refine blk_drewN ?_ _ | refine blk_drew ?_ | refine blk_alloc ?_ _)); exact BK176.out)) : gb204 ≠ gb176)); have n16_ := Aside0.mk ((by rw [hg]; exact Nat.ne_of_lt (blk_lt (g := gb177) (o := .cells #[.int .i64 x178000_1, .int .i64 x178001_1, .int .i64 x178002_1, .slice none 0 0, .slice none 0 0] 30 (0, 0)) (by (with_reducible repeat (first | refine blk_drewN ?_ _ | refine blk_drew ?_ | refine blk_alloc ?_ _)); exact BK177.out)) : gb177 ≠ gb204)); have n17_ := Aside0.mk ((by rw [hg]; exact Nat.ne_of_gt (blk_lt (g := gb177) (o := .cells #[.int .i64 x178000_1, .int .i64 x178001_1, .int .i64 x178002_1, .slice none 0 0, .slice none 0 0] 30 (0, 0)) (by (with_reducible repeat (first | refine blk_drewN ?_ _ | refine blk_drew ?_ | refine blk_alloc ?_ _)); exact BK177.out)) : gb204 ≠ gb177)); have n18_ := Aside0.mk ((by rw [hg]; exact Nat.ne_of_lt (blk_lt (g := gb188) (o := .cells #[.int .i64 x189000_1, .int .i64 x189001_1, .int .i64 x189002_1, .slice Ao59 x189003_1.length co59, .slice Ao60 x189004_1.length co60] 30 (0, 0)) (by (with_reducible repeat (first | refine blk_drewN ?_ _ | refine blk_drew ?_ | refine blk_alloc ?_ _)); exact BK188.out)) : gb188 ≠ gb204)); have n19_ := Aside0.mk ((by rw [hg]; exact Nat.ne_of_gt (blk_lt (g := gb188) (o := .cells #[.int .i64 x189000_1, .int .i64 x189001_1, .int .i64 x189002_1, .slice Ao59 x189003_1.length co59, .slice Ao60 x189004_1.length co60] 30 (0, 0)) (by (with_reducible repeat (first | refine blk_drewN ?_ _ | refine blk_drew ?_ | refine blk_alloc ?_ _)); exact BK188.out)) : gb204 ≠ gb188)); have n20_ := Aside0.mk ((by rw [hg]; exact Nat.ne_of_lt (blk_lt (g := gb190) (o := .cells #[.int .i64 ((rd_T47 l2 x30_1).f0), .int .i64 ((rd_T47 l2 x30_1).f1), .int .i64 ((rd_T47 l2 x30_1).f2), .int .i64 ((rd_T47 l2 x30_1).f3)] 47 (0, 0)) (by (with_reducible repeat (first | refine blk_drewN ?_ _ | refine blk_drew ?_ | refine blk_alloc ?_ _)); exact BK190.out)) : gb190 ≠ gb204)); have n21_ := Aside0.mk ((by rw [hg]; exact Nat.ne_of_gt (blk_lt (g := gb190) (o := .cells #[.int .i64 ((rd_T47 l2 x30_1).f0), .int .i64 ((rd_T47 l2 x30_1).f1), .int .i64 ((rd_T47 l2 x30_1).f2), .int .i64 ((rd_T47 l2 x30_1).f3)] 47 (0, 0)) (by (with_reducible repeat (first | refine blk_drewN ?_ _ | refine blk_drew ?_ | refine blk_alloc ?_ _)); exact BK190.out)) : gb204 ≠ gb190)); clear HO_12; clear HO_189003; clear HO_189004; clear HO196; clear HO199; clear HO202; clear BK176; clear BK177; clear BK188; clear BK190; clear HB; have HO_12 := n0_; have HO_189003 := n1_; have HO_189004 := n2_; have HO196 := n3_; have HO199 := n4_; have HO202 := n5_; have BK176 := n6_; have BK177 := n7_; have BK188 := n8_; have BK190 := n9_; have HB := n10_; have BK204 := n11_; have GW204 := n12_; have GE204 := n13_; have NB176_204 := n14_; have NB204_176 := n15_; have NB177_204 := n16_; have NB204_177 := n17_; have NB188_204 := n18_; have NB204_188 := n19_; have NB190_204 := n20_; have NB204_190 := n21_; clear n0_ n1_ n2_ n3_ n4_ n5_ n6_ n7_ n8_ n9_ n10_ n11_ n12_ n13_ n14_ n15_ n16_ n17_ n18_ n19_ n20_ n21_; clear hb hbox hg; have hnb63 := NB204_176.out; have hnc63 := NB176_204.out; have hnb64 := NB204_177.out; have hnc64 := NB177_204.out; have hnb65 := NB204_188.out; have hnc65 := NB188_204.out; have hnb66 := NB204_190.out; have hnc66 := NB190_204.out; obtain ⟨hcz67_0, hcz67_1, hcz67_2, hcz67_3, hcz67_4⟩ := cells5 BK204; obtain ⟨hfz67_0, hfz67_1, hfz67_2, hfz67_3, hfz67_4⟩ := frz5 BK204; obtain ⟨Ao68, co68, eo68⟩ := Kd.R_slice HO196.out; subst eo68; obtain ⟨Ao69, co69, eo69⟩ := Kd.R_slice HO199.out; subst eo69; have hnb70 := NB177_176.out; have hnc70 := NB176_177.out; obtain ⟨hcz71_0, hcz71_1, hcz71_2, hcz71_3, hcz71_4⟩ := cells5 BK177; obtain ⟨hfz71_0, hfz71_1, hfz71_2, hfz71_3, hfz71_4⟩ := frz5 BK177))
        refine bodyPost_ret (results_list (rs := [.cell 6 30, .tmp 7, .tmp 8, .tmp 9]) rfl (by simp) (.cell gb177 30 #[.int .i64 0, .int .i64 0, .int .i64 0, .slice none 0 0, .slice none 0 0] (0, 0) _ rfl (by (with_reducible repeat (first | refine blk_drewN ?_ _ | refine blk_drew ?_ | refine blk_alloc ?_ _)); refine blk_put (cs := #[.int .i64 0, .int .i64 0, .int .i64 0, .slice none 0 0, .slice none 0 0]) ?_ 4 _ rfl; (with_reducible repeat (first | refine blk_drewN ?_ _ | refine blk_drew ?_ | refine blk_alloc ?_ _)); refine blk_put (cs := #[.int .i64 0, .int .i64 0, .int .i64 0, .slice none 0 0, .slice none 0 0]) ?_ 3 _ rfl; (with_reducible repeat (first | refine blk_drewN ?_ _ | refine blk_drew ?_ | refine blk_alloc ?_ _)); refine blk_put (cs := #[.int .i64 0, .int .i64 0, .int .i64 x178002_1, .slice none 0 0, .slice none 0 0]) ?_ 2 _ rfl; (with_reducible repeat (first | refine blk_drewN ?_ _ | refine blk_drew ?_ | refine blk_alloc ?_ _)); refine blk_put (cs := #[.int .i64 0, .int .i64 x178001_1, .int .i64 x178002_1, .slice none 0 0, .slice none 0 0]) ?_ 1 _ rfl; (with_reducible repeat (first | refine blk_drewN ?_ _ | refine blk_drew ?_ | refine blk_alloc ?_ _)); refine blk_put (cs := #[.int .i64 x178000_1, .int .i64 x178001_1, .int .i64 x178002_1, .slice none 0 0, .slice none 0 0]) ?_ 0 _ rfl; (with_reducible repeat (first | refine blk_drewN ?_ _ | refine blk_drew ?_ | refine blk_alloc ?_ _)); refine blk_far ?_ NB177_204.out _; (with_reducible repeat (first | refine blk_drewN ?_ _ | refine blk_drew ?_ | refine blk_alloc ?_ _)); refine blk_far ?_ NB177_204.out _; (with_reducible repeat (first | refine blk_drewN ?_ _ | refine blk_drew ?_ | refine blk_alloc ?_ _)); refine blk_far ?_ NB177_204.out _; (with_reducible repeat (first | refine blk_drewN ?_ _ | refine blk_drew ?_ | refine blk_alloc ?_ _)); refine blk_far ?_ NB177_204.out _; (with_reducible repeat (first | refine blk_drewN ?_ _ | refine blk_drew ?_ | refine blk_alloc ?_ _)); refine blk_far ?_ NB177_204.out _; (with_reducible repeat (first | refine blk_drewN ?_ _ | refine blk_drew ?_ | refine blk_alloc ?_ _)); exact BK177.out) Try.underlying30 rfl (by kernel_rfl) (.tmp (.tmp (.tmp .nil))))) rfl ?_
        exact ⟨_, _, _, by first | rfl | (simp [errW_none, errW_some] <;> rfl) | (simp [*, errW_none, errW_some] <;> rfl), by first | exact Kd.R_nil _ _ _ _ _ | exact Kd.N_nil _ _ _ _ _ | exact Kd.V_nil _ _ _ _ _ | exact Kd.Q_nil _ _ _ _ _ | exact Kd.S_nil _ _ _ _ _, by first | exact Kd.R_nil _ _ _ _ _ | exact Kd.N_nil _ _ _ _ _ | exact Kd.V_nil _ _ _ _ _ | exact Kd.Q_nil _ _ _ _ _ | exact Kd.S_nil _ _ _ _ _, by first | exact Kd.R_nil _ _ _ _ _ | exact Kd.N_nil _ _ _ _ _ | exact Kd.V_nil _ _ _ _ _ | exact Kd.Q_nil _ _ _ _ _ | exact Kd.S_nil _ _ _ _ _, pB HB⟩
      ·rw [if_neg c19] at H
       exact absurd H (by simp)
     ·rw [if_neg c18] at H
      exact absurd H (by simp)
    ·rw [if_neg c17] at H
     have c17b0 : decide (x30_1 < (l2.length : Int)) = false := decide_eq_false c17
     clear c17
     simp only [Option.some.injEq, Prod.mk.injEq] at H
     obtain ⟨rfl, rfl, rfl, rfl, rfl, rfl, rfl, rfl⟩ := H
     have hnb72 := NB188_176.out
     have hnc72 := NB176_188.out
     have hnb73 := NB188_177.out
     have hnc73 := NB177_188.out
     obtain ⟨hcz74_0, hcz74_1, hcz74_2, hcz74_3, hcz74_4⟩ := cells5 BK188
     obtain ⟨hfz74_0, hfz74_1, hfz74_2, hfz74_3, hfz74_4⟩ := frz5 BK188
     have hnb75 := NB177_176.out
     have hnc75 := NB176_177.out
     obtain ⟨hcz76_0, hcz76_1, hcz76_2, hcz76_3, hcz76_4⟩ := cells5 BK177
     obtain ⟨hfz76_0, hfz76_1, hfz76_2, hfz76_3, hfz76_4⟩ := frz5 BK177
     obtain ⟨Ao77, co77, eo77⟩ := Kd.R_slice HO_189003.out
     subst eo77
     obtain ⟨Ao78, co78, eo78⟩ := Kd.R_slice HO_189004.out
     subst eo78
     go_wp2
     refine bodyPost_ret (results_list (rs := [.cell 6 30, .tmp 7, .tmp 8, .tmp 9]) rfl (by simp) (.cell gb177 30 #[.int .i64 x189000_1, .int .i64 x189001_1, .int .i64 x189002_1, .slice Ao77 x189003_1.length co77, .slice Ao78 x189004_1.length co78] (0, 0) _ rfl (by (with_reducible repeat (first | refine blk_drewN ?_ _ | refine blk_drew ?_ | refine blk_alloc ?_ _)); refine blk_put (cs := #[.int .i64 x189000_1, .int .i64 x189001_1, .int .i64 x189002_1, .slice Ao77 x189003_1.length co77, .slice none 0 0]) ?_ 4 _ rfl; (with_reducible repeat (first | refine blk_drewN ?_ _ | refine blk_drew ?_ | refine blk_alloc ?_ _)); refine blk_put (cs := #[.int .i64 x189000_1, .int .i64 x189001_1, .int .i64 x189002_1, .slice none 0 0, .slice none 0 0]) ?_ 3 _ rfl; (with_reducible repeat (first | refine blk_drewN ?_ _ | refine blk_drew ?_ | refine blk_alloc ?_ _)); refine blk_put (cs := #[.int .i64 x189000_1, .int .i64 x189001_1, .int .i64 x178002_1, .slice none 0 0, .slice none 0 0]) ?_ 2 _ rfl; (with_reducible repeat (first | refine blk_drewN ?_ _ | refine blk_drew ?_ | refine blk_alloc ?_ _)); refine blk_put (cs := #[.int .i64 x189000_1, .int .i64 x178001_1, .int .i64 x178002_1, .slice none 0 0, .slice none 0 0]) ?_ 1 _ rfl; (with_reducible repeat (first | refine blk_drewN ?_ _ | refine blk_drew ?_ | refine blk_alloc ?_ _)); refine blk_put (cs := #[.int .i64 x178000_1, .int .i64 x178001_1, .int .i64 x178002_1, .slice none 0 0, .slice none 0 0]) ?_ 0 _ rfl; (with_reducible repeat (first | refine blk_drewN ?_ _ | refine blk_drew ?_ | refine blk_alloc ?_ _)); exact BK177.out) Try.underlying30 rfl (by kernel_rfl) (.tmp (.tmp (.tmp .nil))))) rfl ?_
     exact ⟨_, _, _, by first | rfl | (simp [errW_none, errW_some] <;> rfl) | (simp [*, errW_none, errW_some] <;> rfl), by (with_reducible repeat (first | apply Kd.R_alloc | apply Kd.R_drewN | apply Kd.R_drew)); exact Kd.R_mono (Kd.R_far (p := ⟨gb177, 4, none⟩) (Kd.R_far (p := ⟨gb177, 3, none⟩) (Kd.R_far (p := ⟨gb177, 2, none⟩) (Kd.R_far (p := ⟨gb177, 1, none⟩) (Kd.R_far (p := ⟨gb177, 0, none⟩) (Kd.R_types HO_189003.out BK177.out (by decide)) (fun _ hk => hk.2) (.int .i64 x189000_1)) (fun _ hk => hk.2) (.int .i64 x189001_1)) (fun _ hk => hk.2) (.int .i64 x189002_1)) (fun _ hk => hk.2) (.slice Ao77 x189003_1.length co77)) (fun _ hk => hk.2) (.slice Ao78 x189004_1.length co78)) (fun _ hk => trivial), by (with_reducible repeat (first | apply Kd.R_alloc | apply Kd.R_drewN | apply Kd.R_drew)); exact Kd.R_mono (Kd.R_far (p := ⟨gb177, 4, none⟩) (Kd.R_far (p := ⟨gb177, 3, none⟩) (Kd.R_far (p := ⟨gb177, 2, none⟩) (Kd.R_far (p := ⟨gb177, 1, none⟩) (Kd.R_far (p := ⟨gb177, 0, none⟩) (Kd.R_types HO_189004.out BK177.out (by decide)) (fun _ hk => hk.2) (.int .i64 x189000_1)) (fun _ hk => hk.2) (.int .i64 x189001_1)) (fun _ hk => hk.2) (.int .i64 x189002_1)) (fun _ hk => hk.2) (.slice Ao77 x189003_1.length co77)) (fun _ hk => hk.2) (.slice Ao78 x189004_1.length co78)) (fun _ hk => trivial), by (with_reducible repeat (first | apply Kd.R_alloc | apply Kd.R_drewN | apply Kd.R_drew)); exact Kd.R_mono (Kd.R_far (p := ⟨gb177, 4, none⟩) (Kd.R_far (p := ⟨gb177, 3, none⟩) (Kd.R_far (p := ⟨gb177, 2, none⟩) (Kd.R_far (p := ⟨gb177, 1, none⟩) (Kd.R_far (p := ⟨gb177, 0, none⟩) (Kd.R_types HO_12.out BK177.out (by decide)) (fun _ hk => hk.2) (.int .i64 x189000_1)) (fun _ hk => hk.2) (.int .i64 x189001_1)) (fun _ hk => hk.2) (.int .i64 x189002_1)) (fun _ hk => hk.2) (.slice Ao77 x189003_1.length co77)) (fun _ hk => hk.2) (.slice Ao78 x189004_1.length co78)) (fun _ hk => trivial), pB HB⟩
 ·rw [if_neg c5] at H
  have c5b0 : (t187 == 0) = false := beq_eq_false_iff_ne.mpr c5
  have c5b1 : (t187 != 0) = true := bne_iff_ne.mpr c5
  simp only [Option.some.injEq, Prod.mk.injEq] at H
  obtain ⟨rfl, rfl, rfl, rfl, rfl, rfl, rfl, rfl⟩ := H
  go_enter Try.func29, Try.ntmps29
  go_wp2_with (first | ((with_reducible refine gate_dst (N := 4) rfl ?_); refine box_event ?hg (N := 4) ?hd (cs := #[.int .i64 a1_0, .int .i64 a1_1, .slice A1_2 l1_2.length c1_2]) (t := 27) ?hr ?_; (case hd => rfl); (case hg => rfl); (case hr => first | (go_simp; done) | (go_simp; rfl)); intro gb176 hg w79 hbox hb; have n0_ := Aside0.mk (below_step (pB HB) hb); have n1_ := Aside0.mk (hbox); have n2_ := Aside0.mk ((by rw [hg]; exact (below_size (pB HB)) : w.heap.size ≤ gb176)); have n3_ := Aside0.mk ((by rw [hg]; exact (below_size (pB HB)) : w.heap.size ≤ gb176)); clear HB; have HB := n0_; have BK176 := n1_; have GW176 := n2_; have GE176 := n3_; clear n0_ n1_ n2_ n3_; clear hb hbox hg) | ((with_reducible refine gate_dst (N := 6) rfl ?_); refine box_event ?hg (N := 6) ?hd (cs := #[.int .i64 0, .int .i64 0, .int .i64 0, .slice none 0 0, .slice none 0 0]) (t := 30) ?hr ?_; (case hd => rfl); (case hg => rfl); (case hr => first | (go_simp; done) | (go_simp; rfl)); intro gb177 hg w80 hbox hb; have n0_ := bB BK176 hb; have n1_ := Aside0.mk (below_step (pB HB) hb); have n2_ := Aside0.mk (hbox); have n3_ := Aside0.mk ((by rw [hg]; exact (below_size (pB HB)) : w.heap.size ≤ gb177)); have n4_ := Aside0.mk ((by rw [hg]; exact (below_size (pB HB)) : w.heap.size ≤ gb177)); have n5_ := Aside0.mk ((by rw [hg]; exact Nat.ne_of_lt (blk_lt (g := gb176) (o := .cells #[.int .i64 a1_0, .int .i64 a1_1, .slice A1_2 l1_2.length c1_2] 27 (0, 0)) (by (with_reducible repeat (first | refine blk_drewN ?_ _ | refine blk_drew ?_ | refine blk_alloc ?_ _)); exact BK176.out)) : gb176 ≠ gb177)); have n6_ := Aside0.mk ((by rw [hg]; exact Nat.ne_of_gt (blk_lt (g := gb176) (o := .cells #[.int .i64 a1_0, .int .i64 a1_1, .slice A1_2 l1_2.length c1_2] 27 (0, 0)) (by (with_reducible repeat (first | refine blk_drewN ?_ _ | refine blk_drew ?_ | refine blk_alloc ?_ _)); exact BK176.out)) : gb177 ≠ gb176)); clear BK176; clear HB; have BK176 := n0_; have HB := n1_; have BK177 := n2_; have GW177 := n3_; have GE177 := n4_; have NB176_177 := n5_; have NB177_176 := n6_; clear n0_ n1_ n2_ n3_ n4_ n5_ n6_; clear hb hbox hg; have hnb81 := NB176_177.out; have hnc81 := NB177_176.out; obtain ⟨hcz82_0, hcz82_1, hcz82_2⟩ := cells3 BK176; obtain ⟨hfz82_0, hfz82_1, hfz82_2⟩ := frz3 BK176) | ((with_reducible refine gate_callee (f := 17) rfl ?_); refine goesL_ (some 21) rfl rfl Try.func17 (by kernel_rfl) rfl #[.int .i64 a0, .agg #[.int .i64 a1_0, .int .i64 a1_1, .slice A1_2 l1_2.length c1_2]] rfl (by (try simp only [List.map_toArray, List.map_cons, List.map_nil]); first | done | rfl | (simp only [List.length_drop, List.length_take]; rfl)) ?_; (with_reducible refine (docket_New.calls k a0 a1_0 a1_1 _ _ l1_2 t178 t179 t180 t181 t184 t187 _ ?side1 ?side2 A4.out).mono ?_); (case side1 => repeat (first | exact (Kd.C_below HR1_2.out HB.out) | (with_reducible refine Kd.C_alloc ?_ _) | (with_reducible refine Kd.C_drewN ?_ _) | (with_reducible refine Kd.C_drew ?_))); (case side2 => exact HC1_2.out); rintro e w83 ⟨v182, v185, rfl, ho0, ho1, hb⟩; refine ⟨_, rfl, ?_⟩; have n0_ := Aside0.mk (Kd.R_lower ho0 (below_size (pB HB))); have n1_ := Aside0.mk (Kd.R_lower ho1 (below_size (pB HB))); have n2_ := bB BK176 hb; have n3_ := bB BK177 hb; have n4_ := Aside0.mk (below_step (pB HB) hb); clear BK176; clear BK177; clear HB; have HO183 := n0_; have HO186 := n1_; have BK176 := n2_; have BK177 := n3_; have HB := n4_; clear n0_ n1_ n2_ n3_ n4_; (try clear hb); (try clear hb2); (try clear hk); (try clear hi); (try clear ho0); (try clear ho1)) | ((with_reducible refine gate_dst (N := 10) rfl ?_); refine box_event ?hg (N := 10) ?hd (cs := #[.int .i64 0, .int .i64 0, .int .i64 0, .slice none 0 0, .slice none 0 0]) (t := 30) ?hr ?_; (case hd => rfl); (case hg => rfl); (case hr => first | (go_simp; done) | (go_simp; rfl)); intro gb188 hg w84 hbox hb; have n0_ := rB HO183 hb; have n1_ := rB HO186 hb; have n2_ := bB BK176 hb; have n3_ := bB BK177 hb; have n4_ := Aside0.mk (below_step (pB HB) hb); have n5_ := Aside0.mk (hbox); have n6_ := Aside0.mk ((by rw [hg]; exact (below_size (pB HB)) : w.heap.size ≤ gb188)); have n7_ := Aside0.mk ((by rw [hg]; exact (below_size (pB HB)) : w.heap.size ≤ gb188)); have n8_ := Aside0.mk ((by rw [hg]; exact Nat.ne_of_lt (blk_lt (g := gb176) (o := .cells #[.int .i64 a1_0, .int .i64 a1_1, .slice A1_2 l1_2.length c1_2] 27 (0, 0)) (by (with_reducible repeat (first | refine blk_drewN ?_ _ | refine blk_drew ?_ | refine blk_alloc ?_ _)); exact BK176.out)) : gb176 ≠ gb188)); have n9_ := Aside0.mk ((by rw [hg]; exact Nat.ne_of_gt (blk_lt (g := gb176) (o := .cells #[.int .i64 a1_0, .int .i64 a1_1, .slice A1_2 l1_2.length c1_2] 27 (0, 0)) (by (with_reducible repeat (first | refine blk_drewN ?_ _ | refine blk_drew ?_ | refine blk_alloc ?_ _)); exact BK176.out)) : gb188 ≠ gb176)); have n10_ := Aside0.mk ((by rw [hg]; exact Nat.ne_of_lt (blk_lt (g := gb177) (o := .cells #[.int .i64 0, .int .i64 0, .int .i64 0, .slice none 0 0, .slice none 0 0] 30 (0, 0)) (by (with_reducible repeat (first | refine blk_drewN ?_ _ | refine blk_drew ?_ | refine blk_alloc ?_ _)); exact BK177.out)) : gb177 ≠ gb188)); have n11_ := Aside0.mk ((by rw [hg]; exact Nat.ne_of_gt (blk_lt (g := gb177) (o := .cells #[.int .i64 0, .int .i64 0, .int .i64 0, .slice none 0 0, .slice none 0 0] 30 (0, 0)) (by (with_reducible repeat (first | refine blk_drewN ?_ _ | refine blk_drew ?_ | refine blk_alloc ?_ _)); exact BK177.out)) : gb188 ≠ gb177)); clear HO183; clear HO186; clear BK176; clear BK177; clear HB; have HO183 := n0_; have HO186 := n1_; have BK176 := n2_; have BK177 := n3_; have HB := n4_; have BK188 := n5_; have GW188 := n6_; have GE188 := n7_; have NB176_188 := n8_; have NB188_176 := n9_; have NB177_188 := n10_; have NB188_177 := n11_; clear n0_ n1_ n2_ n3_ n4_ n5_ n6_ n7_ n8_ n9_ n10_ n11_; clear hb hbox hg; have hnb85 := NB188_176.out; have hnc85 := NB176_188.out; have hnb86 := NB188_177.out; have hnc86 := NB177_188.out; obtain ⟨hcz87_0, hcz87_1, hcz87_2, hcz87_3, hcz87_4⟩ := cells5 BK188; obtain ⟨hfz87_0, hfz87_1, hfz87_2, hfz87_3, hfz87_4⟩ := frz5 BK188; obtain ⟨Ao88, co88, eo88⟩ := Kd.R_slice HO183.out; subst eo88; obtain ⟨Ao89, co89, eo89⟩ := Kd.R_slice HO186.out; subst eo89; obtain ⟨hcz90_0, hcz90_1, hcz90_2, hcz90_3, hcz90_4⟩ := cells5 BK177; obtain ⟨hfz90_0, hfz90_1, hfz90_2, hfz90_3, hfz90_4⟩ := frz5 BK177))
  refine bodyPost_ret (results_list (rs := [.cell 6 30, .tmp 7, .tmp 8, .tmp 9]) rfl (by simp) (.cell gb177 30 #[.int .i64 0, .int .i64 0, .int .i64 0, .slice none 0 0, .slice none 0 0] (0, 0) _ rfl (by (with_reducible repeat (first | refine blk_drewN ?_ _ | refine blk_drew ?_ | refine blk_alloc ?_ _)); refine blk_put (cs := #[.int .i64 0, .int .i64 0, .int .i64 0, .slice none 0 0, .slice none 0 0]) ?_ 4 _ rfl; (with_reducible repeat (first | refine blk_drewN ?_ _ | refine blk_drew ?_ | refine blk_alloc ?_ _)); refine blk_put (cs := #[.int .i64 0, .int .i64 0, .int .i64 0, .slice none 0 0, .slice none 0 0]) ?_ 3 _ rfl; (with_reducible repeat (first | refine blk_drewN ?_ _ | refine blk_drew ?_ | refine blk_alloc ?_ _)); refine blk_put (cs := #[.int .i64 0, .int .i64 0, .int .i64 0, .slice none 0 0, .slice none 0 0]) ?_ 2 _ rfl; (with_reducible repeat (first | refine blk_drewN ?_ _ | refine blk_drew ?_ | refine blk_alloc ?_ _)); refine blk_put (cs := #[.int .i64 0, .int .i64 0, .int .i64 0, .slice none 0 0, .slice none 0 0]) ?_ 1 _ rfl; (with_reducible repeat (first | refine blk_drewN ?_ _ | refine blk_drew ?_ | refine blk_alloc ?_ _)); refine blk_put (cs := #[.int .i64 0, .int .i64 0, .int .i64 0, .slice none 0 0, .slice none 0 0]) ?_ 0 _ rfl; (with_reducible repeat (first | refine blk_drewN ?_ _ | refine blk_drew ?_ | refine blk_alloc ?_ _)); refine blk_far ?_ NB177_188.out _; (with_reducible repeat (first | refine blk_drewN ?_ _ | refine blk_drew ?_ | refine blk_alloc ?_ _)); refine blk_far ?_ NB177_188.out _; (with_reducible repeat (first | refine blk_drewN ?_ _ | refine blk_drew ?_ | refine blk_alloc ?_ _)); refine blk_far ?_ NB177_188.out _; (with_reducible repeat (first | refine blk_drewN ?_ _ | refine blk_drew ?_ | refine blk_alloc ?_ _)); refine blk_far ?_ NB177_188.out _; (with_reducible repeat (first | refine blk_drewN ?_ _ | refine blk_drew ?_ | refine blk_alloc ?_ _)); refine blk_far ?_ NB177_188.out _; (with_reducible repeat (first | refine blk_drewN ?_ _ | refine blk_drew ?_ | refine blk_alloc ?_ _)); exact BK177.out) Try.underlying30 rfl (by kernel_rfl) (.tmp (.tmp (.tmp .nil))))) rfl ?_
  exact ⟨_, _, _, by first | rfl | (simp [errW_none, errW_some] <;> rfl) | (simp [*, errW_none, errW_some] <;> rfl), by first | exact Kd.R_nil _ _ _ _ _ | exact Kd.N_nil _ _ _ _ _ | exact Kd.V_nil _ _ _ _ _ | exact Kd.Q_nil _ _ _ _ _ | exact Kd.S_nil _ _ _ _ _, by first | exact Kd.R_nil _ _ _ _ _ | exact Kd.N_nil _ _ _ _ _ | exact Kd.V_nil _ _ _ _ _ | exact Kd.Q_nil _ _ _ _ _ | exact Kd.S_nil _ _ _ _ _, by first | exact Kd.R_nil _ _ _ _ _ | exact Kd.N_nil _ _ _ _ _ | exact Kd.V_nil _ _ _ _ _ | exact Kd.Q_nil _ _ _ _ _ | exact Kd.S_nil _ _ _ _ _, pB HB⟩

end Go.Proofs.Ytpfiecjacpbhkaa.D

/- What the Go functions named below come to, each told as_ a Lean function ('.f'), with the proof ('.calls'): no condition beyond those that each theorem states. Written by a program of this session's over the translation. -/
namespace Go.Proofs.Ytpfiecjacpbhkaa.D
open Go.RowKit Go.Proofs.YtpfiecjacpbhkaaW.PrintWords Go.Proofs.YtpfiecjacpbhkaaW.PrintLast Go.Proofs.YtpfiecjacpbhkaaW.PrintMore
attribute [local go_sem] max2_int min2_int max_two min_two max_three min_three max_four min_four   -- for this text's walks alone
set_option linter.unusedVariables false
set_option linter.unusedSimpArgs false

attribute [local go_sem high] eqA52
/-! ### insolvencylaw33_awake: function 14 -/
def insolvencylaw33_awake.f (k : Nat)  : Option (Bool) := (docket_Play.f k 0 5 5 ([] : List Int) (([(⟨1, 0, 3, 0⟩ : S47), (⟨2, 0, 3, 0⟩ : S47)] : List (S47)))).bind fun bt211 => ((docket_Due.f k bt211.1 bt211.2.1 bt211.2.2.1 bt211.2.2.2.1 bt211.2.2.2.2.1).bind fun bt226 => ((docket_Advance.f k bt211.1 bt211.2.1 bt211.2.2.1 bt211.2.2.2.1 bt211.2.2.2.2.1 8).bind fun bt228 => (if bt211.2.2.2.2.2.2.1 = (-1) then (if bt211.2.2.2.2.2.2.2 = 0 then (if bt226.2 = true then (if bt226.1 = 7 then (if bt228.2.2.2.2.2.2 = 0 then (if (bt228.2.2.2.2.2.1.length : Int) = 1 then (if 0 < (bt228.2.2.2.2.2.1.length : Int) then (some (((rd_T52 bt228.2.2.2.2.2.1 0).f0) == 3 && (((rd_T52 bt228.2.2.2.2.2.1 0).f1) == 8 && (((rd_T52 bt228.2.2.2.2.2.1 0).f2) == 0)))) else (none)) else (none)) else (none)) else (none)) else (none)) else (none)) else (none))))
theorem insolvencylaw33_awake.mono : ∀ k, LeO (insolvencylaw33_awake.f k ) (insolvencylaw33_awake.f (k + 1) ) := by
 intro  k
 unfold insolvencylaw33_awake.f
 repeat' first
   | (with_reducible exact docket_Advance.mono _ _ _ _ _ _ _)
   | (with_reducible exact docket_Due.mono _ _ _ _ _ _)
   | (with_reducible exact docket_Play.mono _ _ _ _ _ _)
   | (with_reducible exact LeO.refl _)
   | (with_reducible exact LeO.none _)
   | (with_reducible refine LeO.ite ?_ ?_)
   | (with_reducible refine LeO.bind ?_ (fun _ => ?_))
   | exact docket_Advance.mono _ _ _ _ _ _ _
   | exact docket_Due.mono _ _ _ _ _ _
   | exact docket_Play.mono _ _ _ _ _ _
   | exact LeO.none _
   | refine LeO.ite ?_ ?_
   | refine LeO.bind ?_ (fun _ => ?_)
set_option maxHeartbeats 8000000 in
set_option maxRecDepth 100000 in
theorem insolvencylaw33_awake.calls (k : Nat)  (r : Bool) (w : World) (h : insolvencylaw33_awake.f k  = some r) :
  Calls Try.prog 14 #[] w fun e w' => e = .returned (.bool r) ∧ Below w.heap.size w w' := by
 have hu27 := Try.underlying27
 have hu47 := Try.underlying47
 have hu30 := Try.underlying30
 have hu52 := Try.underlying52
 have HB := Aside0.mk (Below.refl w.heap.size w)
 have H : ((docket_Play.f k 0 5 5 ([] : List Int) (([(⟨1, 0, 3, 0⟩ : S47), (⟨2, 0, 3, 0⟩ : S47)] : List (S47)))).bind fun bt211 => ((docket_Due.f k bt211.1 bt211.2.1 bt211.2.2.1 bt211.2.2.2.1 bt211.2.2.2.2.1).bind fun bt226 => ((docket_Advance.f k bt211.1 bt211.2.1 bt211.2.2.1 bt211.2.2.2.1 bt211.2.2.2.2.1 8).bind fun bt228 => (if bt211.2.2.2.2.2.2.1 = (-1) then (if bt211.2.2.2.2.2.2.2 = 0 then (if bt226.2 = true then (if bt226.1 = 7 then (if bt228.2.2.2.2.2.2 = 0 then (if (bt228.2.2.2.2.2.1.length : Int) = 1 then (if 0 < (bt228.2.2.2.2.2.1.length : Int) then (some (((rd_T52 bt228.2.2.2.2.2.1 0).f0) == 3 && (((rd_T52 bt228.2.2.2.2.2.1 0).f1) == 8 && (((rd_T52 bt228.2.2.2.2.2.1 0).f2) == 0)))) else (none)) else (none)) else (none)) else (none)) else (none)) else (none)) else (none))))) = some r := h
 clear h
 obtain ⟨y208, hy208⟩ : ∃ y_ : List (S47), y_ = (([(⟨1, 0, 3, 0⟩ : S47), (⟨2, 0, 3, 0⟩ : S47)] : List (S47))) := ⟨_, rfl⟩
 replace H : ((docket_Play.f k 0 5 5 ([] : List Int) y208).bind fun bt211 => ((docket_Due.f k bt211.1 bt211.2.1 bt211.2.2.1 bt211.2.2.2.1 bt211.2.2.2.2.1).bind fun bt226 => ((docket_Advance.f k bt211.1 bt211.2.1 bt211.2.2.1 bt211.2.2.2.1 bt211.2.2.2.2.1 8).bind fun bt228 => (if bt211.2.2.2.2.2.2.1 = (-1) then (if bt211.2.2.2.2.2.2.2 = 0 then (if bt226.2 = true then (if bt226.1 = 7 then (if bt228.2.2.2.2.2.2 = 0 then (if (bt228.2.2.2.2.2.1.length : Int) = 1 then (if 0 < (bt228.2.2.2.2.2.1.length : Int) then (some (((rd_T52 bt228.2.2.2.2.2.1 0).f0) == 3 && (((rd_T52 bt228.2.2.2.2.2.1 0).f1) == 8 && (((rd_T52 bt228.2.2.2.2.2.1 0).f2) == 0)))) else (none)) else (none)) else (none)) else (none)) else (none)) else (none)) else (none))))) = some r := by first | (rw [hy208]; with_reducible exact H) | (have H2_ := (Option.bind_some _ _).symm.trans H; rw [hy208]; with_reducible exact H2_) | (have H2_ := (Option.bind_some _ _).symm.trans H; with_reducible exact H2_) | with_reducible exact H | (rw [hy208]; exact H) | exact H
 have Ny208 := Aside0.mk hy208
 clear hy208
 replace H := Option.bind_eq_some_iff.mp H
 obtain ⟨⟨t211, t212, t213, t214, t217, t220, t223, t224⟩, A10, H⟩ := H
 replace H : ((docket_Due.f k t211 t212 t213 t214 t217).bind fun bt226 => ((docket_Advance.f k t211 t212 t213 t214 t217 8).bind fun bt228 => (if t223 = (-1) then (if t224 = 0 then (if bt226.2 = true then (if bt226.1 = 7 then (if bt228.2.2.2.2.2.2 = 0 then (if (bt228.2.2.2.2.2.1.length : Int) = 1 then (if 0 < (bt228.2.2.2.2.2.1.length : Int) then (some (((rd_T52 bt228.2.2.2.2.2.1 0).f0) == 3 && (((rd_T52 bt228.2.2.2.2.2.1 0).f1) == 8 && (((rd_T52 bt228.2.2.2.2.2.1 0).f2) == 0)))) else (none)) else (none)) else (none)) else (none)) else (none)) else (none)) else (none)))) = some r := H
 have A1 := Aside0.mk A10
 clear A10
 replace H := Option.bind_eq_some_iff.mp H
 obtain ⟨⟨t226, t227⟩, A20, H⟩ := H
 replace H : ((docket_Advance.f k t211 t212 t213 t214 t217 8).bind fun bt228 => (if t223 = (-1) then (if t224 = 0 then (if t227 = true then (if t226 = 7 then (if bt228.2.2.2.2.2.2 = 0 then (if (bt228.2.2.2.2.2.1.length : Int) = 1 then (if 0 < (bt228.2.2.2.2.2.1.length : Int) then (some (((rd_T52 bt228.2.2.2.2.2.1 0).f0) == 3 && (((rd_T52 bt228.2.2.2.2.2.1 0).f1) == 8 && (((rd_T52 bt228.2.2.2.2.2.1 0).f2) == 0)))) else (none)) else (none)) else (none)) else (none)) else (none)) else (none)) else (none))) = some r := H
 have A2 := Aside0.mk A20
 clear A20
 replace H := Option.bind_eq_some_iff.mp H
 obtain ⟨⟨t228, t229, t230, t231, t234, t237, t240⟩, A30, H⟩ := H
 replace H : (if t223 = (-1) then (if t224 = 0 then (if t227 = true then (if t226 = 7 then (if t240 = 0 then (if (t237.length : Int) = 1 then (if 0 < (t237.length : Int) then (some (((rd_T52 t237 0).f0) == 3 && (((rd_T52 t237 0).f1) == 8 && (((rd_T52 t237 0).f2) == 0)))) else (none)) else (none)) else (none)) else (none)) else (none)) else (none)) else (none)) = some r := H
 have A3 := Aside0.mk A30
 clear A30
 by_cases c4 : t223 = (-1)
 ·rw [if_pos c4] at H
  have c4b0 : (t223 == (-1)) = true := beq_iff_eq.mpr c4
  have c4b1 : (t223 != (-1)) = false := bne_eq_false_iff_eq.mpr c4
  clear c4
  by_cases c5 : t224 = 0
  ·rw [if_pos c5] at H
   have c5b0 : (t224 == 0) = true := beq_iff_eq.mpr c5
   have c5b1 : (t224 != 0) = false := bne_eq_false_iff_eq.mpr c5
   clear c5
   by_cases c6 : t227 = true
   ·subst c6
    have H1 : (if t226 = 7 then (if t240 = 0 then (if (t237.length : Int) = 1 then (if 0 < (t237.length : Int) then (some (((rd_T52 t237 0).f0) == 3 && (((rd_T52 t237 0).f1) == 8 && (((rd_T52 t237 0).f2) == 0)))) else (none)) else (none)) else (none)) else (none)) = some r := by rw [if_pos rfl] at H; exact H
    clear H
    have H := H1
    clear H1
    by_cases c7 : t226 = 7
    ·rw [if_pos c7] at H
     have c7b0 : (t226 == 7) = true := beq_iff_eq.mpr c7
     have c7b1 : (t226 != 7) = false := bne_eq_false_iff_eq.mpr c7
     clear c7
     by_cases c8 : t240 = 0
     ·rw [if_pos c8] at H
      have c8b0 : (t240 == 0) = true := beq_iff_eq.mpr c8
      have c8b1 : (t240 != 0) = false := bne_eq_false_iff_eq.mpr c8
      clear c8
      by_cases c9 : (t237.length : Int) = 1
      ·rw [if_pos c9] at H
       have c9b0 : ((t237.length : Int) == 1) = true := beq_iff_eq.mpr c9
       have c9b1 : ((t237.length : Int) != 1) = false := bne_eq_false_iff_eq.mpr c9
       clear c9
       by_cases c10 : 0 < (t237.length : Int)
       ·rw [if_pos c10] at H
        have c10b0 : decide (0 < (t237.length : Int)) = true := decide_eq_true c10
        have c10b1 : decide (0 < t237.length) = true := decide_eq_true (by omega)
        clear c10
        obtain rfl := Option.some.inj H
        go_enter Try.func14, Try.ntmps14
        go_wp2_with (first | ((with_reducible refine gate_dst (N := 14) rfl ?_); (try (refine gate_guard (by rfl) ?_; dsimp only)); refine Kd.R_lit k47 _ 47 ?hg (N := 14) ?hd (xs := ([(⟨1, 0, 3, 0⟩ : S47), (⟨2, 0, 3, 0⟩ : S47)] : List (S47))) (inner := [.int .i64 1, .int .i64 0, .int .i64 3, .int .i64 0, .int .i64 2, .int .i64 0, .int .i64 3, .int .i64 0]) (ok := fun _ => True) (okp := fun _ => True) ?hr ?hp (fun _ hk => hk) trivial (Below.refl _ _) (Nat.le_refl _) (by simp) ?_; (case hd => rfl); (case hg => rfl); (case hr => first | (go_simp; done) | (go_simp; rfl)); (case hp => exact (Reps.c4 (show Kd.M k47 _ _ _ (⟨1, 0, 3, 0⟩ : S47) [.int .i64 1, .int .i64 0, .int .i64 3, .int .i64 0] from (k47_mkM _ _ _ (⟨1, 0, 3, 0⟩ : S47) )) (Reps.c4 (show Kd.M k47 _ _ _ (⟨2, 0, 3, 0⟩ : S47) [.int .i64 2, .int .i64 0, .int .i64 3, .int .i64 0] from (k47_mkM _ _ _ (⟨2, 0, 3, 0⟩ : S47) )) (Reps.none _ _)))); intro v209 w11 ho12 hb hg_ hnew_; clear hg_ hnew_; (first | rw [← Ny208.out] at ho12 | (simp only [Int.reduceToNat] at ho12; rw [← Ny208.out] at ho12)); have n0_ := Aside0.mk (Kd.R_lower ho12 (below_size (pB HB))); have n1_ := Aside0.mk (below_step (pB HB) hb); clear HB; have HO210 := n0_; have HB := n1_; clear n0_ n1_; clear hb ho12; obtain ⟨Ao13, co13, eo13⟩ := Kd.R_slice HO210.out; subst eo13) | ((with_reducible refine gate_callee (f := 29) rfl ?_); refine goesL_ (some 15) rfl rfl Try.func29 (by kernel_rfl) rfl #[.int .i64 0, .agg #[.int .i64 5, .int .i64 5, .slice none 0 0], .slice Ao13 y208.length co13] rfl (by (try simp only [List.map_toArray, List.map_cons, List.map_nil]); first | done | rfl | (simp only [List.length_drop, List.length_take]; rfl)) ?_; (refine (docket_Play.calls k 0 5 5 _ _ ([] : List Int) _ _ y208 t211 t212 t213 t214 t217 t220 t223 t224 _ ?side1 ?side2 ?side3 ?side4 A1.out).mono ?_); (case side1 => exact Kd.C_nil _ _); (case side2 => exact Nat.le_refl _); (case side3 => repeat (first | exact (Kd.R_reads' HO210.out).2.2 | (with_reducible refine Kd.C_alloc ?_ _) | (with_reducible refine Kd.C_drewN ?_ _) | (with_reducible refine Kd.C_drew ?_))); (case side4 => exact (Kd.R_reads' HO210.out).2.1); rintro e w14 ⟨v215, v218, v221, rfl, ho0, ho1, ho2, hb⟩; refine ⟨_, rfl, ?_⟩; have n0_ := rB HO210 hb; have n1_ := Aside0.mk (Kd.R_lower ho0 (below_size (pB HB))); have n2_ := Aside0.mk (Kd.R_lower ho1 (below_size (pB HB))); have n3_ := Aside0.mk (Kd.R_lower ho2 (below_size (pB HB))); have n4_ := Aside0.mk (below_step (pB HB) hb); clear HO210; clear HB; have HO210 := n0_; have HO216 := n1_; have HO219 := n2_; have HO222 := n3_; have HB := n4_; clear n0_ n1_ n2_ n3_ n4_; (try clear hb); (try clear hb2); (try clear hk); (try clear hi); (try clear ho0); (try clear ho1); (try clear ho2)) | ((with_reducible refine gate_dst (N := 1) rfl ?_); (try (refine gate_guard (by rfl) ?_; dsimp only)); refine box_event ?hg (N := 1) ?hd (cs := #[.int .i64 0, .int .i64 0, .int .i64 0, .slice none 0 0, .slice none 0 0]) (t := 30) ?hr ?_; (case hd => rfl); (case hg => rfl); (case hr => first | (go_simp; done) | (go_simp; rfl)); intro gb225 hg w15 hbox hb; have n0_ := rB HO210 hb; have n1_ := rB HO216 hb; have n2_ := rB HO219 hb; have n3_ := rB HO222 hb; have n4_ := Aside0.mk (below_step (pB HB) hb); have n5_ := Aside0.mk (hbox); have n6_ := Aside0.mk ((by rw [hg]; exact (below_size (pB HB)) : w.heap.size ≤ gb225)); have n7_ := Aside0.mk ((by rw [hg]; exact (below_size (pB HB)) : w.heap.size ≤ gb225)); clear HO210; clear HO216; clear HO219; clear HO222; clear HB; have HO210 := n0_; have HO216 := n1_; have HO219 := n2_; have HO222 := n3_; have HB := n4_; have BK225 := n5_; have GW225 := n6_; have GE225 := n7_; clear n0_ n1_ n2_ n3_ n4_ n5_ n6_ n7_; clear hb hbox hg; obtain ⟨hcz16_0, hcz16_1, hcz16_2, hcz16_3, hcz16_4⟩ := cells5 BK225; obtain ⟨hfz16_0, hfz16_1, hfz16_2, hfz16_3, hfz16_4⟩ := frz5 BK225; obtain ⟨Ao17, co17, eo17⟩ := Kd.R_slice HO216.out; subst eo17; obtain ⟨Ao18, co18, eo18⟩ := Kd.R_slice HO219.out; subst eo18) | ((with_reducible refine gate_callee (f := 25) rfl ?_); refine goesL_ (some 22) rfl rfl Try.func25 (by kernel_rfl) rfl #[.agg #[.int .i64 t211, .int .i64 t212, .int .i64 t213, .slice Ao17 t214.length co17, .slice Ao18 t217.length co18]] rfl (by (try simp only [List.map_toArray, List.map_cons, List.map_nil]); first | done | rfl | (simp only [List.length_drop, List.length_take]; rfl)) ?_; (with_reducible refine (docket_Due.calls k t211 t212 t213 _ _ t214 _ _ t217 t226 true _ ?side1 ?side2 ?side3 ?side4 A2.out).mono ?_); (case side1 => refine (Kd.R_reads' (e := 3) (base := w.heap.size) (ok := fun k_ => True) (n := t214.length) (c := co17) ?_).2.2; exact (by (with_reducible repeat (first | apply Kd.R_alloc | apply Kd.R_drewN | apply Kd.R_drew)); exact (Kd.R_mono (Kd.R_far (p := ⟨gb225, 4, none⟩) (Kd.R_far (p := ⟨gb225, 3, none⟩) (Kd.R_far (p := ⟨gb225, 2, none⟩) (Kd.R_far (p := ⟨gb225, 1, none⟩) (Kd.R_far (p := ⟨gb225, 0, none⟩) (Kd.R_types HO216.out BK225.out (by decide)) (fun _ hk => hk.2) (.int .i64 t211)) (fun _ hk => hk.2) (.int .i64 t212)) (fun _ hk => hk.2) (.int .i64 t213)) (fun _ hk => hk.2) (.slice Ao17 t214.length co17)) (fun _ hk => hk.2) (.slice Ao18 t217.length co18)) (fun _ h_ => h_.1)))); (case side2 => exact (Kd.R_reads' HO216.out).2.1); (case side3 => refine (Kd.R_reads' (e := 50) (base := w.heap.size) (ok := fun k_ => True) (n := t217.length) (c := co18) ?_).2.2; exact (by (with_reducible repeat (first | apply Kd.R_alloc | apply Kd.R_drewN | apply Kd.R_drew)); exact (Kd.R_mono (Kd.R_far (p := ⟨gb225, 4, none⟩) (Kd.R_far (p := ⟨gb225, 3, none⟩) (Kd.R_far (p := ⟨gb225, 2, none⟩) (Kd.R_far (p := ⟨gb225, 1, none⟩) (Kd.R_far (p := ⟨gb225, 0, none⟩) (Kd.R_types HO219.out BK225.out (by decide)) (fun _ hk => hk.2) (.int .i64 t211)) (fun _ hk => hk.2) (.int .i64 t212)) (fun _ hk => hk.2) (.int .i64 t213)) (fun _ hk => hk.2) (.slice Ao17 t214.length co17)) (fun _ hk => hk.2) (.slice Ao18 t217.length co18)) (fun _ h_ => h_.1)))); (case side4 => exact (Kd.R_reads' HO219.out).2.1); rintro e w19 ⟨rfl, hb⟩; refine ⟨_, rfl, ?_⟩; have n0_ := Aside0.mk (Kd.R_below (by (with_reducible repeat (first | apply Kd.R_alloc | apply Kd.R_drewN | apply Kd.R_drew)); exact (Kd.R_mono (Kd.R_far (p := ⟨gb225, 4, none⟩) (Kd.R_far (p := ⟨gb225, 3, none⟩) (Kd.R_far (p := ⟨gb225, 2, none⟩) (Kd.R_far (p := ⟨gb225, 1, none⟩) (Kd.R_far (p := ⟨gb225, 0, none⟩) (Kd.R_types HO210.out BK225.out (by decide)) (fun _ hk => hk.2) (.int .i64 t211)) (fun _ hk => hk.2) (.int .i64 t212)) (fun _ hk => hk.2) (.int .i64 t213)) (fun _ hk => hk.2) (.slice Ao17 t214.length co17)) (fun _ hk => hk.2) (.slice Ao18 t217.length co18)) (fun _ h_ => h_.1))) hb); have n1_ := Aside0.mk (Kd.R_below (by (with_reducible repeat (first | apply Kd.R_alloc | apply Kd.R_drewN | apply Kd.R_drew)); exact (Kd.R_mono (Kd.R_far (p := ⟨gb225, 4, none⟩) (Kd.R_far (p := ⟨gb225, 3, none⟩) (Kd.R_far (p := ⟨gb225, 2, none⟩) (Kd.R_far (p := ⟨gb225, 1, none⟩) (Kd.R_far (p := ⟨gb225, 0, none⟩) (Kd.R_types HO216.out BK225.out (by decide)) (fun _ hk => hk.2) (.int .i64 t211)) (fun _ hk => hk.2) (.int .i64 t212)) (fun _ hk => hk.2) (.int .i64 t213)) (fun _ hk => hk.2) (.slice Ao17 t214.length co17)) (fun _ hk => hk.2) (.slice Ao18 t217.length co18)) (fun _ h_ => h_.1))) hb); have n2_ := Aside0.mk (Kd.R_below (by (with_reducible repeat (first | apply Kd.R_alloc | apply Kd.R_drewN | apply Kd.R_drew)); exact (Kd.R_mono (Kd.R_far (p := ⟨gb225, 4, none⟩) (Kd.R_far (p := ⟨gb225, 3, none⟩) (Kd.R_far (p := ⟨gb225, 2, none⟩) (Kd.R_far (p := ⟨gb225, 1, none⟩) (Kd.R_far (p := ⟨gb225, 0, none⟩) (Kd.R_types HO219.out BK225.out (by decide)) (fun _ hk => hk.2) (.int .i64 t211)) (fun _ hk => hk.2) (.int .i64 t212)) (fun _ hk => hk.2) (.int .i64 t213)) (fun _ hk => hk.2) (.slice Ao17 t214.length co17)) (fun _ hk => hk.2) (.slice Ao18 t217.length co18)) (fun _ h_ => h_.1))) hb); have n3_ := Aside0.mk (Kd.R_below (by (with_reducible repeat (first | apply Kd.R_alloc | apply Kd.R_drewN | apply Kd.R_drew)); exact (Kd.R_mono (Kd.R_far (p := ⟨gb225, 4, none⟩) (Kd.R_far (p := ⟨gb225, 3, none⟩) (Kd.R_far (p := ⟨gb225, 2, none⟩) (Kd.R_far (p := ⟨gb225, 1, none⟩) (Kd.R_far (p := ⟨gb225, 0, none⟩) (Kd.R_types HO222.out BK225.out (by decide)) (fun _ hk => hk.2) (.int .i64 t211)) (fun _ hk => hk.2) (.int .i64 t212)) (fun _ hk => hk.2) (.int .i64 t213)) (fun _ hk => hk.2) (.slice Ao17 t214.length co17)) (fun _ hk => hk.2) (.slice Ao18 t217.length co18)) (fun _ h_ => h_.1))) hb); have n4_ := Aside0.mk (blk_below (g := gb225) (o := .cells #[.int .i64 t211, .int .i64 t212, .int .i64 t213, .slice Ao17 t214.length co17, .slice Ao18 t217.length co18] 30 (0, 0)) (by (with_reducible repeat (first | refine blk_drewN ?_ _ | refine blk_drew ?_ | refine blk_alloc ?_ _)); refine blk_put (cs := #[.int .i64 t211, .int .i64 t212, .int .i64 t213, .slice Ao17 t214.length co17, .slice none 0 0]) ?_ 4 _ rfl; (with_reducible repeat (first | refine blk_drewN ?_ _ | refine blk_drew ?_ | refine blk_alloc ?_ _)); refine blk_put (cs := #[.int .i64 t211, .int .i64 t212, .int .i64 t213, .slice none 0 0, .slice none 0 0]) ?_ 3 _ rfl; (with_reducible repeat (first | refine blk_drewN ?_ _ | refine blk_drew ?_ | refine blk_alloc ?_ _)); refine blk_put (cs := #[.int .i64 t211, .int .i64 t212, .int .i64 0, .slice none 0 0, .slice none 0 0]) ?_ 2 _ rfl; (with_reducible repeat (first | refine blk_drewN ?_ _ | refine blk_drew ?_ | refine blk_alloc ?_ _)); refine blk_put (cs := #[.int .i64 t211, .int .i64 0, .int .i64 0, .slice none 0 0, .slice none 0 0]) ?_ 1 _ rfl; (with_reducible repeat (first | refine blk_drewN ?_ _ | refine blk_drew ?_ | refine blk_alloc ?_ _)); refine blk_put (cs := #[.int .i64 0, .int .i64 0, .int .i64 0, .slice none 0 0, .slice none 0 0]) ?_ 0 _ rfl; (with_reducible repeat (first | refine blk_drewN ?_ _ | refine blk_drew ?_ | refine blk_alloc ?_ _)); exact BK225.out) hb); have n5_ := Aside0.mk (below_step (pB HB) hb); clear HO210; clear HO216; clear HO219; clear HO222; clear BK225; clear HB; have HO210 := n0_; have HO216 := n1_; have HO219 := n2_; have HO222 := n3_; have BK225 := n4_; have HB := n5_; clear n0_ n1_ n2_ n3_ n4_ n5_; (try clear hb); (try clear hb2); (try clear hk); (try clear hi); obtain ⟨hcz20_0, hcz20_1, hcz20_2, hcz20_3, hcz20_4⟩ := cells5 BK225; obtain ⟨hfz20_0, hfz20_1, hfz20_2, hfz20_3, hfz20_4⟩ := frz5 BK225) | ((with_reducible refine gate_callee (f := 13) rfl ?_); refine goesL_ (some 27) rfl rfl Try.func13 (by kernel_rfl) rfl #[.agg #[.int .i64 t211, .int .i64 t212, .int .i64 t213, .slice Ao17 t214.length co17, .slice Ao18 t217.length co18], .int .i64 8] rfl (by (try simp only [List.map_toArray, List.map_cons, List.map_nil]); first | done | rfl | (simp only [List.length_drop, List.length_take]; rfl)) ?_; (with_reducible refine (docket_Advance.calls k t211 t212 t213 _ _ t214 _ _ t217 8 t228 t229 t230 t231 t234 t237 t240 _ ?side1 ?side2 ?side3 ?side4 A3.out).mono ?_); (case side1 => repeat (first | exact (Kd.R_reads' HO216.out).2.2 | (with_reducible refine Kd.C_alloc ?_ _) | (with_reducible refine Kd.C_drewN ?_ _) | (with_reducible refine Kd.C_drew ?_))); (case side2 => exact (Kd.R_reads' HO216.out).2.1); (case side3 => repeat (first | exact (Kd.R_reads' HO219.out).2.2 | (with_reducible refine Kd.C_alloc ?_ _) | (with_reducible refine Kd.C_drewN ?_ _) | (with_reducible refine Kd.C_drew ?_))); (case side4 => exact (Kd.R_reads' HO219.out).2.1); rintro e w21 ⟨v232, v235, v238, rfl, ho0, ho1, ho2, hb⟩; refine ⟨_, rfl, ?_⟩; have n0_ := rB HO210 hb; have n1_ := Aside0.mk (Kd.R_elder' (by (with_reducible repeat (first | apply Kd.R_alloc | apply Kd.R_drewN | apply Kd.R_drew)); exact HO216.out) (Kd.R_base ho0) hb); have n2_ := Aside0.mk (Kd.R_elder' (by (with_reducible repeat (first | apply Kd.R_alloc | apply Kd.R_drewN | apply Kd.R_drew)); exact HO219.out) (Kd.R_base ho1) hb); have n3_ := Aside0.mk (Kd.R_elder' (by (with_reducible repeat (first | apply Kd.R_alloc | apply Kd.R_drewN | apply Kd.R_drew)); exact HO222.out) (Kd.R_base ho2) hb); have n4_ := Aside0.mk (Kd.R_lower (Kd.R_new' ho0 (Kd.R_lt (by (with_reducible repeat (first | apply Kd.R_alloc | apply Kd.R_drewN | apply Kd.R_drew)); exact HO216.out))) (below_size (pB HB))); have n5_ := Aside0.mk (Kd.R_lower (Kd.R_new' ho1 (Kd.R_lt (by (with_reducible repeat (first | apply Kd.R_alloc | apply Kd.R_drewN | apply Kd.R_drew)); exact HO219.out))) (below_size (pB HB))); have n6_ := Aside0.mk (Kd.R_lower (Kd.R_new' ho2 (Kd.R_lt (by (with_reducible repeat (first | apply Kd.R_alloc | apply Kd.R_drewN | apply Kd.R_drew)); exact HO222.out))) (below_size (pB HB))); have n7_ := bB BK225 hb; have n8_ := Aside0.mk (below_step (pB HB) hb); clear HO210; clear HO216; clear HO219; clear HO222; clear BK225; clear HB; have HO210 := n0_; have HO216 := n1_; have HO219 := n2_; have HO222 := n3_; have HO233 := n4_; have HO236 := n5_; have HO239 := n6_; have BK225 := n7_; have HB := n8_; clear n0_ n1_ n2_ n3_ n4_ n5_ n6_ n7_ n8_; (try clear hb); (try clear hb2); (try clear hk); (try clear hi); (try clear ho0); (try clear ho1); (try clear ho2)) | ((with_reducible refine gate_dst (N := 7) rfl ?_); (try (refine gate_guard (by rfl) ?_; dsimp only)); refine box_event ?hg (N := 7) ?hd (cs := #[.int .i64 0, .int .i64 0, .int .i64 0, .slice none 0 0, .slice none 0 0]) (t := 30) ?hr ?_; (case hd => rfl); (case hg => rfl); (case hr => first | (go_simp; done) | (go_simp; rfl)); intro gb241 hg w22 hbox hb; have n0_ := rB HO210 hb; have n1_ := rB HO216 hb; have n2_ := rB HO219 hb; have n3_ := rB HO222 hb; have n4_ := rB HO233 hb; have n5_ := rB HO236 hb; have n6_ := rB HO239 hb; have n7_ := bB BK225 hb; have n8_ := Aside0.mk (below_step (pB HB) hb); have n9_ := Aside0.mk (hbox); have n10_ := Aside0.mk ((by rw [hg]; exact (below_size (pB HB)) : w.heap.size ≤ gb241)); have n11_ := Aside0.mk ((by rw [hg]; exact (below_size (pB HB)) : w.heap.size ≤ gb241)); have n12_ := Aside0.mk ((by rw [hg]; exact Nat.ne_of_lt (blk_lt (g := gb225) (o := .cells #[.int .i64 t211, .int .i64 t212, .int .i64 t213, .slice Ao17 t214.length co17, .slice Ao18 t217.length co18] 30 (0, 0)) (by (with_reducible repeat (first | refine blk_drewN ?_ _ | refine blk_drew ?_ | refine blk_alloc ?_ _)); exact BK225.out)) : gb225 ≠ gb241)); have n13_ := Aside0.mk ((by rw [hg]; exact Nat.ne_of_gt (blk_lt (g := gb225) (o := .cells #[.int .i64 t211, .int .i64 t212, .int .i64 t213, .slice Ao17 t214.length co17, .slice Ao18 t217.length co18] 30 (0, 0)) (by (with_reducible repeat (first | refine blk_drewN ?_ _ | refine blk_drew ?_ | refine blk_alloc ?_ _)); exact BK225.out)) : gb241 ≠ gb225)); clear HO210; clear HO216; clear HO219; clear HO222; clear HO233; clear HO236; clear HO239; clear BK225; clear HB; have HO210 := n0_; have HO216 := n1_; have HO219 := n2_; have HO222 := n3_; have HO233 := n4_; have HO236 := n5_; have HO239 := n6_; have BK225 := n7_; have HB := n8_; have BK241 := n9_; have GW241 := n10_; have GE241 := n11_; have NB225_241 := n12_; have NB241_225 := n13_; clear n0_ n1_ n2_ n3_ n4_ n5_ n6_ n7_ n8_ n9_ n10_ n11_ n12_ n13_; clear hb hbox hg; have hnb23 := NB241_225.out; have hnc23 := NB225_241.out; obtain ⟨hcz24_0, hcz24_1, hcz24_2, hcz24_3, hcz24_4⟩ := cells5 BK241; obtain ⟨hfz24_0, hfz24_1, hfz24_2, hfz24_3, hfz24_4⟩ := frz5 BK241; obtain ⟨Ao25, co25, eo25⟩ := Kd.R_slice HO233.out; subst eo25; obtain ⟨Ao26, co26, eo26⟩ := Kd.R_slice HO236.out; subst eo26; obtain ⟨Ao27, co27, eo27⟩ := Kd.R_slice HO239.out; subst eo27; have p242 : 0 ≤ (0 : Int) := (by omega); have q242 : 0 < (t237.length : Int) := of_decide_eq_true (by first | (with_reducible assumption) | assumption); obtain ⟨ad242, e242, hx242_0, hx242_1, hx242_2⟩ := at_T52 (Kd.R_reads' HO239.out).2.2 0 p242 q242; cases e242; have qi242 : (0 < t237.length) = True := eq_true (by omega); (try rw [show ((0 : Int)).toNat = 0 from rfl] at hx242_0); (try rw [show 0 * 3 = 0 from rfl] at hx242_0); (try rw [Addr.add_zero'] at hx242_0); (try rw [show ((0 : Int)).toNat = 0 from rfl] at hx242_1); (try rw [show 0 * 3 = 0 from rfl] at hx242_1); (try rw [Addr.add_zero'] at hx242_1); (try rw [show ((0 : Int)).toNat = 0 from rfl] at hx242_2); (try rw [show 0 * 3 = 0 from rfl] at hx242_2); (try rw [Addr.add_zero'] at hx242_2); have hn242_0 : ad242.block ≠ gb241 := Kd.own_blk (Kd.R_ne HO239.out BK241.out (by decide)); have hn242_1 : ad242.block ≠ gb241 := Kd.own_blk (Kd.R_ne HO239.out BK241.out (by decide)); have hn242_2 : ad242.block ≠ gb241 := Kd.own_blk (Kd.R_ne HO239.out BK241.out (by decide)); have hn242_3 : ad242.block ≠ gb241 := Kd.own_blk (Kd.R_ne HO239.out BK241.out (by decide)); have hn242_4 : ad242.block ≠ gb241 := Kd.own_blk (Kd.R_ne HO239.out BK241.out (by decide)); replace hx242_0 := (cell_far (p := ⟨gb241, 0, none⟩) (by first | (rw [add_block]; exact hn242_0) | (show (Addr.add _ _).block ≠ _; rw [add_block]; exact hn242_0) | exact hn242_0) (.int .i64 t228)).trans hx242_0; replace hx242_1 := (cell_far (p := ⟨gb241, 0, none⟩) (by first | (rw [add_block]; exact hn242_0) | (show (Addr.add _ _).block ≠ _; rw [add_block]; exact hn242_0) | exact hn242_0) (.int .i64 t228)).trans hx242_1; replace hx242_2 := (cell_far (p := ⟨gb241, 0, none⟩) (by first | (rw [add_block]; exact hn242_0) | (show (Addr.add _ _).block ≠ _; rw [add_block]; exact hn242_0) | exact hn242_0) (.int .i64 t228)).trans hx242_2; replace hx242_0 := (cell_far (p := ⟨gb241, 1, none⟩) (by first | (rw [add_block]; exact hn242_1) | (show (Addr.add _ _).block ≠ _; rw [add_block]; exact hn242_1) | exact hn242_1) (.int .i64 t229)).trans hx242_0; replace hx242_1 := (cell_far (p := ⟨gb241, 1, none⟩) (by first | (rw [add_block]; exact hn242_1) | (show (Addr.add _ _).block ≠ _; rw [add_block]; exact hn242_1) | exact hn242_1) (.int .i64 t229)).trans hx242_1; replace hx242_2 := (cell_far (p := ⟨gb241, 1, none⟩) (by first | (rw [add_block]; exact hn242_1) | (show (Addr.add _ _).block ≠ _; rw [add_block]; exact hn242_1) | exact hn242_1) (.int .i64 t229)).trans hx242_2; replace hx242_0 := (cell_far (p := ⟨gb241, 2, none⟩) (by first | (rw [add_block]; exact hn242_2) | (show (Addr.add _ _).block ≠ _; rw [add_block]; exact hn242_2) | exact hn242_2) (.int .i64 t230)).trans hx242_0; replace hx242_1 := (cell_far (p := ⟨gb241, 2, none⟩) (by first | (rw [add_block]; exact hn242_2) | (show (Addr.add _ _).block ≠ _; rw [add_block]; exact hn242_2) | exact hn242_2) (.int .i64 t230)).trans hx242_1; replace hx242_2 := (cell_far (p := ⟨gb241, 2, none⟩) (by first | (rw [add_block]; exact hn242_2) | (show (Addr.add _ _).block ≠ _; rw [add_block]; exact hn242_2) | exact hn242_2) (.int .i64 t230)).trans hx242_2; replace hx242_0 := (cell_far (p := ⟨gb241, 3, none⟩) (by first | (rw [add_block]; exact hn242_3) | (show (Addr.add _ _).block ≠ _; rw [add_block]; exact hn242_3) | exact hn242_3) (.slice Ao25 t231.length co25)).trans hx242_0; replace hx242_1 := (cell_far (p := ⟨gb241, 3, none⟩) (by first | (rw [add_block]; exact hn242_3) | (show (Addr.add _ _).block ≠ _; rw [add_block]; exact hn242_3) | exact hn242_3) (.slice Ao25 t231.length co25)).trans hx242_1; replace hx242_2 := (cell_far (p := ⟨gb241, 3, none⟩) (by first | (rw [add_block]; exact hn242_3) | (show (Addr.add _ _).block ≠ _; rw [add_block]; exact hn242_3) | exact hn242_3) (.slice Ao25 t231.length co25)).trans hx242_2; replace hx242_0 := (cell_far (p := ⟨gb241, 4, none⟩) (by first | (rw [add_block]; exact hn242_4) | (show (Addr.add _ _).block ≠ _; rw [add_block]; exact hn242_4) | exact hn242_4) (.slice Ao26 t234.length co26)).trans hx242_0; replace hx242_1 := (cell_far (p := ⟨gb241, 4, none⟩) (by first | (rw [add_block]; exact hn242_4) | (show (Addr.add _ _).block ≠ _; rw [add_block]; exact hn242_4) | exact hn242_4) (.slice Ao26 t234.length co26)).trans hx242_1; replace hx242_2 := (cell_far (p := ⟨gb241, 4, none⟩) (by first | (rw [add_block]; exact hn242_4) | (show (Addr.add _ _).block ≠ _; rw [add_block]; exact hn242_4) | exact hn242_4) (.slice Ao26 t234.length co26)).trans hx242_2; clear hn242_0; clear hn242_1; clear hn242_2; clear hn242_3; clear hn242_4; replace p242 := eq_true p242; replace q242 := eq_true q242))
        go_ret
        exact ⟨by first | rfl | (simp [errW_none, errW_some] <;> rfl) | (simp [*, errW_none, errW_some] <;> rfl), pB HB⟩
       ·rw [if_neg c10] at H
        exact absurd H (by simp)
      ·rw [if_neg c9] at H
       exact absurd H (by simp)
     ·rw [if_neg c8] at H
      exact absurd H (by simp)
    ·rw [if_neg c7] at H
     exact absurd H (by simp)
   ·replace c6 := Bool.eq_false_iff.mpr c6
    subst c6
    have H1 : (none) = some r := by rw [if_neg (show ¬ (false = true) by decide)] at H; exact H
    clear H
    have H := H1
    clear H1
    exact absurd H (by simp)
  ·rw [if_neg c5] at H
   exact absurd H (by simp)
 ·rw [if_neg c4] at H
  exact absurd H (by simp)

end Go.Proofs.Ytpfiecjacpbhkaa.D

/- What the Go functions named below come to, each told as_ a Lean function ('.f'), with the proof ('.calls'): no condition beyond those that each theorem states. Written by a program of this session's over the translation. -/
namespace Go.Proofs.Ytpfiecjacpbhkaa.D
open Go.RowKit Go.Proofs.YtpfiecjacpbhkaaW.PrintWords Go.Proofs.YtpfiecjacpbhkaaW.PrintLast Go.Proofs.YtpfiecjacpbhkaaW.PrintMore
attribute [local go_sem] max2_int min2_int max_two min_two max_three min_three max_four min_four   -- for this text's walks alone
set_option linter.unusedVariables false
set_option linter.unusedSimpArgs false

/-! ### insolvencylaw0_Terms: function 18 -/
def insolvencylaw0_Terms.l0 : Nat → List Int → Int → Int → Int → List Int → Option (Int × Int × List Int)
 | 0, _, _, _, _, _ => none
 | k + 1, x1, x6, x317000, x317001, x317002 => if x6 < (x1.length : Int) then (if x6 < 6 then (if 0 ≤ x6 then (if x317002.length < 17592186044416 then (insolvencylaw0_Terms.l0 k x1 (wrap64 (x6 + 1)) x317000 x317001 (x317002 ++ [wrap64 (Int.tmod (rd x1 x6) 60)])) else (none)) else (none)) else (some (x317000, x317001, x317002))) else (some (x317000, x317001, x317002))
def insolvencylaw0_Terms.f (k : Nat) (a0_0 : Int) (a0_1 : Int) (l1 : List Int) : Option (Int × Int × List Int) := insolvencylaw0_Terms.l0 k l1 0 (wrap64 (1 + (wrap64 (Int.tmod a0_0 8)))) (wrap64 (1 + (wrap64 (Int.tmod a0_1 8)))) ([] : List Int)
theorem insolvencylaw0_Terms.mono_l : ∀ k, (∀ y0 y1 y2 y3 y4, LeO (insolvencylaw0_Terms.l0 k y0 y1 y2 y3 y4) (insolvencylaw0_Terms.l0 (k + 1) y0 y1 y2 y3 y4))
 | 0 => fun _ _ _ _ _ r h => by simp [insolvencylaw0_Terms.l0] at h
 | k + 1 => by
  have ih0 := insolvencylaw0_Terms.mono_l k
  ·intro y0 y1 y2 y3 y4
   unfold insolvencylaw0_Terms.l0
   repeat' first
   | (with_reducible exact ih0 _ _ _ _ _)
   | (with_reducible exact LeO.refl _)
   | (with_reducible exact LeO.none _)
   | (with_reducible refine LeO.ite ?_ ?_)
   | (with_reducible refine LeO.bind ?_ (fun _ => ?_))
   | exact ih0 _ _ _ _ _
   | exact LeO.none _
   | refine LeO.ite ?_ ?_
   | refine LeO.bind ?_ (fun _ => ?_)
theorem insolvencylaw0_Terms.mono : ∀ a0 a1 a2 k, LeO (insolvencylaw0_Terms.f k a0 a1 a2) (insolvencylaw0_Terms.f (k + 1) a0 a1 a2) := by
 intro a0 a1 a2 k
 have ih0 := insolvencylaw0_Terms.mono_l k
 unfold insolvencylaw0_Terms.f
 repeat' first
   | (with_reducible exact ih0 _ _ _ _ _)
   | (with_reducible exact LeO.refl _)
   | (with_reducible exact LeO.none _)
   | (with_reducible refine LeO.ite ?_ ?_)
   | (with_reducible refine LeO.bind ?_ (fun _ => ?_))
   | exact ih0 _ _ _ _ _
   | exact LeO.none _
   | refine LeO.ite ?_ ?_
   | refine LeO.bind ?_ (fun _ => ?_)
def insolvencylaw0_Terms.T5 : Bool × List (List Nat × List Nat) := (true, [([], []), ([0], [0]), ([], []), ([], []), ([2, 3], [2, 3]), ([4], [4]), ([5], [5]), ([6], [6]), ([7], [7]), ([1, 8], [1, 8]), ([0, 1, 2, 3, 4, 5, 6, 7, 8, 9], []), ([10, 9, 9, 0, 1, 2, 3, 4, 5, 6, 7, 8, 9], [9, 10])])
def insolvencylaw0_Terms.B5 : List Nat := [0, 1, 0, 0, 12, 28, 60, 124, 252, 511, 1023, 2047]
theorem insolvencylaw0_Terms.tab5 : rtab .any (opsOf Try.f18 5) = insolvencylaw0_Terms.T5 := by kernel_rfl
theorem insolvencylaw0_Terms.bits5 : waitsOk insolvencylaw0_Terms.T5.2 insolvencylaw0_Terms.B5 = true := by kernel_rfl
set_option maxHeartbeats 8000000 in
set_option maxRecDepth 100000 in
theorem insolvencylaw0_Terms.calls (k : Nat) (a0_0 : Int) (a0_1 : Int) (A1 : Option Addr) (c1 : Nat) (l1 : List Int) (r1 : Int) (r2 : Int) (r3 : List Int) (w : World) (hr1 : Kd.C (Kd.int .u16) w A1 l1.length l1) (hc1 : l1.length ≤ c1) (h : insolvencylaw0_Terms.f k a0_0 a0_1 l1 = some (r1, r2, r3)) :
  Calls Try.prog 18 #[.agg #[.int .u8 a0_0, .int .u8 a0_1], .slice A1 l1.length c1] w fun e w' => ∃ v2_ : Value, e = .returned (.agg #[.int .i64 r1, .int .i64 r2, v2_]) ∧ Kd.R (Kd.int .i64) 3 w' w.heap.size (fun _ => True) v2_ r3 ∧ Below w.heap.size w w' := by
 have hu22 := Try.underlying22
 have hu27 := Try.underlying27
 have HR1 := Aside0.mk hr1
 have HC1 := Aside0.mk hc1
 clear hr1 hc1
 have HB := Aside0.mk (Below.refl w.heap.size w)
 have H : (insolvencylaw0_Terms.l0 k l1 0 (wrap64 (1 + (wrap64 (Int.tmod a0_0 8)))) (wrap64 (1 + (wrap64 (Int.tmod a0_1 8)))) ([] : List Int)) = some (r1, r2, r3) := h
 clear h
 have H' := Aside0.mk H
 clear H
 go_enter Try.func18, Try.ntmps18
 go_wp2_with (first | ((with_reducible refine gate_dst (N := 2) rfl ?_); refine box_event ?hg (N := 2) ?hd (cs := #[.int .u8 a0_0, .int .u8 a0_1]) (t := 22) ?hr ?_; (case hd => rfl); (case hg => rfl); (case hr => first | (go_simp; done) | (go_simp; rfl)); intro gb314 hg w3 hbox hb; have n0_ := Aside0.mk (below_step (pB HB) hb); have n1_ := Aside0.mk (hbox); have n2_ := Aside0.mk ((by rw [hg]; exact (below_size (pB HB)) : w.heap.size ≤ gb314)); have n3_ := Aside0.mk ((by rw [hg]; exact (below_size (pB HB)) : w.heap.size ≤ gb314)); clear HB; have HB := n0_; have BK314 := n1_; have GW314 := n2_; have GE314 := n3_; clear n0_ n1_ n2_ n3_; clear hb hbox hg) | ((with_reducible refine gate_dst (N := 4) rfl ?_); refine box_event ?hg (N := 4) ?hd (cs := #[.int .i64 0, .int .i64 0, .slice none 0 0]) (t := 27) ?hr ?_; (case hd => rfl); (case hg => rfl); (case hr => first | (go_simp; done) | (go_simp; rfl)); intro gb315 hg w4 hbox hb; have n0_ := bB BK314 hb; have n1_ := Aside0.mk (below_step (pB HB) hb); have n2_ := Aside0.mk (hbox); have n3_ := Aside0.mk ((by rw [hg]; exact (below_size (pB HB)) : w.heap.size ≤ gb315)); have n4_ := Aside0.mk ((by rw [hg]; exact (below_size (pB HB)) : w.heap.size ≤ gb315)); have n5_ := Aside0.mk ((by rw [hg]; exact Nat.ne_of_lt (blk_lt (g := gb314) (o := .cells #[.int .u8 a0_0, .int .u8 a0_1] 22 (0, 0)) (by (with_reducible repeat (first | refine blk_drewN ?_ _ | refine blk_drew ?_ | refine blk_alloc ?_ _)); exact BK314.out)) : gb314 ≠ gb315)); have n6_ := Aside0.mk ((by rw [hg]; exact Nat.ne_of_gt (blk_lt (g := gb314) (o := .cells #[.int .u8 a0_0, .int .u8 a0_1] 22 (0, 0)) (by (with_reducible repeat (first | refine blk_drewN ?_ _ | refine blk_drew ?_ | refine blk_alloc ?_ _)); exact BK314.out)) : gb315 ≠ gb314)); clear BK314; clear HB; have BK314 := n0_; have HB := n1_; have BK315 := n2_; have GW315 := n3_; have GE315 := n4_; have NB314_315 := n5_; have NB315_314 := n6_; clear n0_ n1_ n2_ n3_ n4_ n5_ n6_; clear hb hbox hg; have hnb5 := NB314_315.out; have hnc5 := NB315_314.out; obtain ⟨hcz6_0, hcz6_1⟩ := cells2 BK314; obtain ⟨hfz6_0, hfz6_1⟩ := frz2 BK314) | ((with_reducible refine gate_dst (N := 5) rfl ?_); refine box_event ?hg (N := 5) ?hd (cs := #[.int .i64 0, .int .i64 0, .slice none 0 0]) (t := 27) ?hr ?_; (case hd => rfl); (case hg => rfl); (case hr => first | (go_simp; done) | (go_simp; rfl)); intro gb316 hg w7 hbox hb; have n0_ := bB BK314 hb; have n1_ := bB BK315 hb; have n2_ := Aside0.mk (below_step (pB HB) hb); have n3_ := Aside0.mk (hbox); have n4_ := Aside0.mk ((by rw [hg]; exact (below_size (pB HB)) : w.heap.size ≤ gb316)); have n5_ := Aside0.mk ((by rw [hg]; exact (below_size (pB HB)) : w.heap.size ≤ gb316)); have n6_ := Aside0.mk ((by rw [hg]; exact Nat.ne_of_lt (blk_lt (g := gb314) (o := .cells #[.int .u8 a0_0, .int .u8 a0_1] 22 (0, 0)) (by (with_reducible repeat (first | refine blk_drewN ?_ _ | refine blk_drew ?_ | refine blk_alloc ?_ _)); exact BK314.out)) : gb314 ≠ gb316)); have n7_ := Aside0.mk ((by rw [hg]; exact Nat.ne_of_gt (blk_lt (g := gb314) (o := .cells #[.int .u8 a0_0, .int .u8 a0_1] 22 (0, 0)) (by (with_reducible repeat (first | refine blk_drewN ?_ _ | refine blk_drew ?_ | refine blk_alloc ?_ _)); exact BK314.out)) : gb316 ≠ gb314)); have n8_ := Aside0.mk ((by rw [hg]; exact Nat.ne_of_lt (blk_lt (g := gb315) (o := .cells #[.int .i64 0, .int .i64 0, .slice none 0 0] 27 (0, 0)) (by (with_reducible repeat (first | refine blk_drewN ?_ _ | refine blk_drew ?_ | refine blk_alloc ?_ _)); exact BK315.out)) : gb315 ≠ gb316)); have n9_ := Aside0.mk ((by rw [hg]; exact Nat.ne_of_gt (blk_lt (g := gb315) (o := .cells #[.int .i64 0, .int .i64 0, .slice none 0 0] 27 (0, 0)) (by (with_reducible repeat (first | refine blk_drewN ?_ _ | refine blk_drew ?_ | refine blk_alloc ?_ _)); exact BK315.out)) : gb316 ≠ gb315)); clear BK314; clear BK315; clear HB; have BK314 := n0_; have BK315 := n1_; have HB := n2_; have BK316 := n3_; have GW316 := n4_; have GE316 := n5_; have NB314_316 := n6_; have NB316_314 := n7_; have NB315_316 := n8_; have NB316_315 := n9_; clear n0_ n1_ n2_ n3_ n4_ n5_ n6_ n7_ n8_ n9_; clear hb hbox hg; have hnb8 := NB316_314.out; have hnc8 := NB314_316.out; have hnb9 := NB316_315.out; have hnc9 := NB315_316.out; obtain ⟨hcz10_0, hcz10_1, hcz10_2⟩ := cells3 BK316; obtain ⟨hfz10_0, hfz10_1, hfz10_2⟩ := frz3 BK316))
 go_loopg [6] k (fun kq v6 w' => ∃ (x6_1 : Int) (x317002_1 : List Int) (u317002 : Value), v6 = .int .i64 x6_1 ∧ Aside0 (insolvencylaw0_Terms.l0 kq l1 x6_1 (wrap64 (1 + (wrap64 (Int.tmod a0_0 8)))) (wrap64 (1 + (wrap64 (Int.tmod a0_1 8)))) x317002_1 = some (r1, r2, r3)) ∧ Aside0 (kq ≤ k) ∧ Aside0 (Kd.R (Kd.int .i64) 3 w' w.heap.size (fun _ => True) u317002 x317002_1) ∧ Aside0 (w'.heap[gb314]? = some (.cells #[.int .u8 a0_0, .int .u8 a0_1] 22 (0, 0))) ∧ Aside0 (w'.heap[gb315]? = some (.cells #[.int .i64 0, .int .i64 0, (.slice none 0 0)] 27 (0, 0))) ∧ Aside0 (w'.heap[gb316]? = some (.cells #[.int .i64 (wrap64 (1 + (wrap64 (Int.tmod a0_0 8)))), .int .i64 (wrap64 (1 + (wrap64 (Int.tmod a0_1 8)))), u317002] 27 (0, 0))) ∧ Aside0 (Below w.heap.size w w'))
 case atStart => exact ⟨(0), (([] : List Int)), (.slice none 0 0), (by first | rfl | (simp; done) | (simp [*]; done)), H', ⟨Nat.le_refl _⟩, ⟨by first | exact Kd.R_nil _ _ _ _ _ | exact Kd.N_nil _ _ _ _ _ | exact Kd.V_nil _ _ _ _ _ | exact Kd.Q_nil _ _ _ _ _ | exact Kd.S_nil _ _ _ _ _⟩, ⟨by (with_reducible repeat (first | refine blk_drewN ?_ _ | refine blk_drew ?_ | refine blk_alloc ?_ _)); refine blk_far ?_ NB314_316.out _; (with_reducible repeat (first | refine blk_drewN ?_ _ | refine blk_drew ?_ | refine blk_alloc ?_ _)); refine blk_far ?_ NB314_316.out _; (with_reducible repeat (first | refine blk_drewN ?_ _ | refine blk_drew ?_ | refine blk_alloc ?_ _)); refine blk_far ?_ NB314_316.out _; (with_reducible repeat (first | refine blk_drewN ?_ _ | refine blk_drew ?_ | refine blk_alloc ?_ _)); exact BK314.out⟩, ⟨by (with_reducible repeat (first | refine blk_drewN ?_ _ | refine blk_drew ?_ | refine blk_alloc ?_ _)); refine blk_far ?_ NB315_316.out _; (with_reducible repeat (first | refine blk_drewN ?_ _ | refine blk_drew ?_ | refine blk_alloc ?_ _)); refine blk_far ?_ NB315_316.out _; (with_reducible repeat (first | refine blk_drewN ?_ _ | refine blk_drew ?_ | refine blk_alloc ?_ _)); refine blk_far ?_ NB315_316.out _; (with_reducible repeat (first | refine blk_drewN ?_ _ | refine blk_drew ?_ | refine blk_alloc ?_ _)); exact BK315.out⟩, ⟨by (with_reducible repeat (first | refine blk_drewN ?_ _ | refine blk_drew ?_ | refine blk_alloc ?_ _)); refine blk_put (cs := #[.int .i64 (wrap64 (1 + (wrap64 (Int.tmod a0_0 8)))), .int .i64 (wrap64 (1 + (wrap64 (Int.tmod a0_1 8)))), .slice none 0 0]) ?_ 2 _ rfl; (with_reducible repeat (first | refine blk_drewN ?_ _ | refine blk_drew ?_ | refine blk_alloc ?_ _)); refine blk_put (cs := #[.int .i64 (wrap64 (1 + (wrap64 (Int.tmod a0_0 8)))), .int .i64 0, .slice none 0 0]) ?_ 1 _ rfl; (with_reducible repeat (first | refine blk_drewN ?_ _ | refine blk_drew ?_ | refine blk_alloc ?_ _)); refine blk_put (cs := #[.int .i64 0, .int .i64 0, .slice none 0 0]) ?_ 0 _ rfl; (with_reducible repeat (first | refine blk_drewN ?_ _ | refine blk_drew ?_ | refine blk_alloc ?_ _)); exact BK316.out⟩, ⟨pB HB⟩⟩
 case round =>
  clear H'
  try clear c1
  try clear p2
  try clear c5
  try clear p6
  try clear c8
  try clear c9
  obtain ⟨x6_1, x317002_1, u317002, rfl, HA, HK1, HO_317002, BK314, BK315, BK316, HB⟩ := hrel
  cases gk with
  | zero => exact absurd HA.out (by simp [insolvencylaw0_Terms.l0])
  | succ k1 =>
   have H := HA.out
   clear HA
   simp only [insolvencylaw0_Terms.l0] at H
   by_cases c11 : x6_1 < (l1.length : Int)
   ·rw [if_pos c11] at H
    have c11b0 : decide (x6_1 < (l1.length : Int)) = true := decide_eq_true c11
    clear c11
    by_cases c12 : x6_1 < 6
    ·rw [if_pos c12] at H
     have c12b0 : decide (x6_1 < 6) = true := decide_eq_true c12
     clear c12
     by_cases c13 : 0 ≤ x6_1
     ·rw [if_pos c13] at H
      have c13b0 : decide (0 ≤ x6_1) = true := decide_eq_true c13
      clear c13
      by_cases c14 : x317002_1.length < 17592186044416
      ·rw [if_pos c14] at H
       have LMc14 := Aside0.mk c14
       clear c14
       obtain ⟨y318, hy318⟩ : ∃ y_ : List Int, y_ = (x317002_1 ++ [wrap64 (Int.tmod (rd l1 x6_1) 60)]) := ⟨_, rfl⟩
       replace H : (insolvencylaw0_Terms.l0 k1 l1 (wrap64 (x6_1 + 1)) (wrap64 (1 + (wrap64 (Int.tmod a0_0 8)))) (wrap64 (1 + (wrap64 (Int.tmod a0_1 8)))) y318) = some (r1, r2, r3) := by first | (rw [hy318]; with_reducible exact H) | (have H2_ := (Option.bind_some _ _).symm.trans H; rw [hy318]; with_reducible exact H2_) | (have H2_ := (Option.bind_some _ _).symm.trans H; with_reducible exact H2_) | with_reducible exact H | (rw [hy318]; exact H) | exact H
       have Ny318 := Aside0.mk hy318
       clear hy318
       have H' := Aside0.mk H
       clear H
       try go_wp2
       have n0_ := Aside0.mk (Kd.R_drew HO_317002.out)
       have n1_ := Aside0.mk (blk_drew BK314.out)
       have n2_ := Aside0.mk (blk_drew BK315.out)
       have n3_ := Aside0.mk (blk_drew BK316.out)
       have n4_ := Aside0.mk (below_drew1 HB.out)
       clear HO_317002
       clear BK314
       clear BK315
       clear BK316
       clear HB
       have HO_317002 := n0_
       have BK314 := n1_
       have BK315 := n2_
       have BK316 := n3_
       have HB := n4_
       clear n0_ n1_ n2_ n3_ n4_
       have p317 : 0 ≤ (x6_1 : Int) := of_decide_eq_true (by first | (with_reducible assumption) | assumption)
       have q317 : x6_1 < (l1.length : Int) := of_decide_eq_true (by first | (with_reducible assumption) | assumption)
       obtain ⟨ad317, e317, hx317_0⟩ := Kd.at_int HR1.out x6_1 p317 q317
       have hw317_0 := hx317_0
       cases e317
       replace hx317_0 := (HB.out.cell (World.block_lt_of_cell? w _ hx317_0)).trans hx317_0
       replace p317 := eq_true p317
       replace q317 := eq_true q317
       refine start_ (n := 12) (S := fun w' => w'.cell? ⟨gb316, 0, none⟩ = some (.int .i64 (wrap64 (1 + (wrap64 (Int.tmod a0_0 8))))) ∧ w'.cell? ⟨gb316, 1, none⟩ = some (.int .i64 (wrap64 (1 + (wrap64 (Int.tmod a0_1 8))))) ∧ w'.cell? ⟨gb316, 2, none⟩ = some (u317002) ∧ w'.cell? (ad317.add (x6_1).toNat) = some (.int .u16 (rd l1 x6_1))) (ds := [11]) #[false, false, false, false, false, false, false, false, false, false, false, false] (by kernel_rfl) rfl rfl ⟨(blk_cell BK316.out 0).trans rfl, (blk_cell BK316.out 1).trans rfl, (blk_cell BK316.out 2).trans rfl, ((HB.out.cell (World.block_lt_of_cell? w _ hw317_0)).trans hw317_0)⟩ (fun hHeld => ?_); refine with_tabW insolvencylaw0_Terms.tab5 insolvencylaw0_Terms.bits5 (fun HT_ HW_ => ?_)
       generalize wr.drew = w15 at HO_317002 BK314 BK315 BK316 HB hx317_0 hHeld ⊢
       refine pure_ (i := 0) (N := some 28) (v := ?_) (a' := ?_) #[true, false, false, false, false, false, false, false, false, false, false, false] rfl rfl (any_of HT_.out (by kernel_rfl)) (fun _ _ _ h => h) (Or.inl ⟨by rfl, ?_⟩) ?_ ?_
       rotate_left
       ·intro w'
        go_simp
        with_reducible rfl
       rotate_left
       ·simp only [Act.put, List.setIfInBounds_toArray, List.set_cons_zero, List.set_cons_succ, i64_w, i32_w]
        rfl
       refine pure_ (i := 2) (N := some 30) (v := ?_) (a' := ?_) #[true, false, true, false, false, false, false, false, false, false, false, false] rfl rfl (any_of HT_.out (by kernel_rfl)) (fun _ _ _ h => h) (Or.inl ⟨by rfl, ?_⟩) ?_ ?_
       rotate_left
       ·intro w'
        go_simp
        with_reducible rfl
       rotate_left
       ·simp only [Act.put, List.setIfInBounds_toArray, List.set_cons_zero, List.set_cons_succ, i64_w, i32_w]
        rfl
       refine pure_ (i := 3) (N := some 31) (v := ?_) (a' := ?_) #[true, false, true, true, false, false, false, false, false, false, false, false] rfl rfl (any_of HT_.out (by kernel_rfl)) (fun _ _ _ h => h) (Or.inl ⟨by rfl, ?_⟩) ?_ ?_
       rotate_left
       ·intro w'
        go_simp
        with_reducible rfl
       rotate_left
       ·simp only [Act.put, List.setIfInBounds_toArray, List.set_cons_zero, List.set_cons_succ, i64_w, i32_w]
        rfl
       refine pure_ (i := 4) (N := some 32) (v := ?_) (a' := ?_) #[true, false, true, true, true, false, false, false, false, false, false, false] rfl rfl (any_of HT_.out (by kernel_rfl)) (fun _ _ _ h => h) (Or.inl ⟨by rfl, ?_⟩) ?_ ?_
       rotate_left
       ·intro w'
        go_simp
        with_reducible rfl
       rotate_left
       ·simp only [Act.put, List.setIfInBounds_toArray, List.set_cons_zero, List.set_cons_succ, i64_w, i32_w]
        rfl
       refine take_ (i := 1) (N := some 29) (v := ?_) (a' := ?_) #[true, true, true, true, true, false, false, false, false, false, false, false] rfl rfl (take_ofW HT_.out HW_.out (by kernel_rfl)) (fun _ _ _ h => h) (Or.inl ⟨by rfl, ?_⟩) hHeld ?_ ?_
       rotate_left
       ·rintro w' ⟨s0, s1, s2, s3⟩
        go_simp
        with_reducible rfl
       rotate_left
       ·simp only [Act.put, List.setIfInBounds_toArray, List.set_cons_zero, List.set_cons_succ, i64_w, i32_w]
        rfl
       refine take_ (i := 5) (N := some 33) (v := ?_) (a' := ?_) #[true, true, true, true, true, true, false, false, false, false, false, false] rfl rfl (take_ofW HT_.out HW_.out (by kernel_rfl)) (fun _ _ _ h => h) (Or.inl ⟨by rfl, ?_⟩) hHeld ?_ ?_
       rotate_left
       ·rintro w' ⟨s0, s1, s2, s3⟩
        go_simp
        with_reducible rfl
       rotate_left
       ·simp only [Act.put, List.setIfInBounds_toArray, List.set_cons_zero, List.set_cons_succ, i64_w, i32_w]
        rfl
       refine pure_ (i := 6) (N := some 34) (v := ?_) (a' := ?_) #[true, true, true, true, true, true, true, false, false, false, false, false] rfl rfl (any_of HT_.out (by kernel_rfl)) (fun _ _ _ h => h) (Or.inl ⟨by rfl, ?_⟩) ?_ ?_
       rotate_left
       ·intro w'
        go_simp
        with_reducible rfl
       rotate_left
       ·simp only [Act.put, List.setIfInBounds_toArray, List.set_cons_zero, List.set_cons_succ, i64_w, i32_w]
        rfl
       refine pure_ (i := 7) (N := some 35) (v := ?_) (a' := ?_) #[true, true, true, true, true, true, true, true, false, false, false, false] rfl rfl (any_of HT_.out (by kernel_rfl)) (fun _ _ _ h => h) (Or.inl ⟨by rfl, ?_⟩) ?_ ?_
       rotate_left
       ·intro w'
        go_simp
        with_reducible rfl
       rotate_left
       ·simp only [Act.put, List.setIfInBounds_toArray, List.set_cons_zero, List.set_cons_succ, i64_w, i32_w]
        rfl
       refine one_ (i := 8) (N := some 36) #[true, true, true, true, true, true, true, true, true, false, false, false] rfl rfl (one_of HT_.out (by kernel_rfl)) (by decide) (fun K hK => ?_)
       refine value_ (w1 := ?_) (v := ?_) (by rfl) rfl ?_ ?_
       rotate_left 2
       ·go_simp
        constructor
        ·rfl
        ·rfl
       refine hK.out _ _ ⟨(blk_cell (blk_alloc BK316.out _) 0).trans rfl, (blk_cell (blk_alloc BK316.out _) 1).trans rfl, (blk_cell (blk_alloc BK316.out _) 2).trans rfl, (World.cell?_alloc_lt _ _ _ (World.block_lt_of_cell? _ _ (((HB.out.cell (World.block_lt_of_cell? w _ hw317_0)).trans hw317_0)))).trans (((HB.out.cell (World.block_lt_of_cell? w _ hw317_0)).trans hw317_0))⟩ (fun hHeld => ?_)
       clear hK K
       refine norm_ (a' := ?_) ?_ ?_
       rotate_left
       ·show Act.put _ (some 36) _ = _
        simp only [Act.put, List.setIfInBounds_toArray, List.set_cons_zero, List.set_cons_succ, i64_w, i32_w]
        rfl
       refine one_ (i := 9) (N := some 37) #[true, true, true, true, true, true, true, true, true, true, false, false] rfl rfl (one_of HT_.out (by kernel_rfl)) (by decide) (fun K hK => ?_)
       refine Kd.R_append_step (Kd.int .i64) (w0 := w) w.heap.size (by rfl) (.tmp 29) (.tmp 36) 25 3 (.int .i64 0) 8 rfl Try.underlying25 info3 rfl (by decide) (by omega) u317002 x317002_1 (wrap64 (Int.tmod (rd l1 x6_1) 60)) [.int .i64 (wrap64 (Int.tmod (rd l1 x6_1) 60))] (fun _ => True) (fun _ => False) rfl rfl ?aP (fun _ hk => hk.elim) ?aF ?aO ?aB ?aS ?aL ?_
       (case aP => exact rfl)
       (case aB => exact (pB HB))
       (case aF => exact (fun _ _ => trivial))
       (case aO => exact (by (with_reducible repeat (first | apply Kd.R_alloc | apply Kd.R_drewN | apply Kd.R_drew)); exact HO_317002.out))
       (case aS => exact (below_size (pB HB)))
       (case aL => have := LMc14.out; omega)
       intro v319 w16 ho hb hg hat
       rw [← Ny318.out] at ho
       have n0_ := Aside0.mk (blk_grown (g := gb314) (o := .cells #[.int .u8 a0_0, .int .u8 a0_1] 22 (0, 0)) (by (with_reducible repeat (first | refine blk_drewN ?_ _ | refine blk_drew ?_ | refine blk_alloc ?_ _)); exact BK314.out) hg (Kd.R_ne HO_317002.out BK314.out (by decide)))
       have n1_ := Aside0.mk (blk_grown (g := gb315) (o := .cells #[.int .i64 0, .int .i64 0, .slice none 0 0] 27 (0, 0)) (by (with_reducible repeat (first | refine blk_drewN ?_ _ | refine blk_drew ?_ | refine blk_alloc ?_ _)); exact BK315.out) hg (Kd.R_ne HO_317002.out BK315.out (by decide)))
       have n2_ := Aside0.mk (blk_grown (g := gb316) (o := .cells #[.int .i64 (wrap64 (1 + (wrap64 (Int.tmod a0_0 8)))), .int .i64 (wrap64 (1 + (wrap64 (Int.tmod a0_1 8)))), u317002] 27 (0, 0)) (by (with_reducible repeat (first | refine blk_drewN ?_ _ | refine blk_drew ?_ | refine blk_alloc ?_ _)); exact BK316.out) hg (Kd.R_ne HO_317002.out BK316.out (by decide)))
       have n3_ := Aside0.mk (hb)
       have n4_ := Aside0.mk (ho)
       clear BK314
       clear BK315
       clear BK316
       clear HB
       clear HO_317002
       have BK314 := n0_
       have BK315 := n1_
       have BK316 := n2_
       have HB := n3_
       have HO320 := n4_
       clear n0_ n1_ n2_ n3_ n4_
       clear ho hb hg hat
       obtain ⟨Ao17, co17, eo17⟩ := Kd.R_slice HO320.out
       (first | subst eo17 | (injection eo17 with f1_ f2_ f3_; have f4_ := f1_.symm; have f5_ := f3_.symm; clear f1_ f2_ f3_; subst f4_; subst f5_))
       refine hK.out _ _ ⟨(blk_cell BK316.out 0).trans rfl, (blk_cell BK316.out 1).trans rfl, (blk_cell BK316.out 2).trans rfl, ((HB.out.cell (World.block_lt_of_cell? w _ hw317_0)).trans hw317_0)⟩ (fun hHeld => ?_)
       clear hK K
       refine norm_ (a' := ?_) ?_ ?_
       rotate_left
       ·show Act.put _ (some 37) _ = _
        simp only [Act.put, List.setIfInBounds_toArray, List.set_cons_zero, List.set_cons_succ, i64_w, i32_w]
        rfl
       refine pure_ (i := 10) (N := some 38) (v := ?_) (a' := ?_) #[true, true, true, true, true, true, true, true, true, true, true, false] rfl rfl (any_of HT_.out (by kernel_rfl)) (fun _ _ _ h => h) (Or.inl ⟨by rfl, ?_⟩) ?_ ?_
       rotate_left
       ·intro w'
        go_simp
        with_reducible rfl
       rotate_left
       ·simp only [Act.put, List.setIfInBounds_toArray, List.set_cons_zero, List.set_cons_succ, i64_w, i32_w]
        rfl
       refine last_ (i := 11) (N := none) #[true, true, true, true, true, true, true, true, true, true, true, true] rfl rfl (one_of HT_.out (by kernel_rfl)) (by decide) (fun K hK => ?_)
       have hs18 : w16.cell? ⟨gb316, 2, none⟩ = some (u317002) := (blk_cell BK316.out 2).trans rfl
       have hfs18 := blk_frozen BK316.out 2
       have hns18_0 := NB314_316.out
       have hns18_1 := NB315_316.out
       have hms18_0 := NB316_314.out
       have hms18_1 := NB316_315.out
       refine skip_ (w1 := ?_) (by rfl) rfl ?_ ?_
       rotate_left
       ·go_simp
        rfl
       refine hK.out _ _ ?_
       clear hK K
       refine done_ (done_of HT_.out (by kernel_rfl)) ?_
       try go_wp2
       go_roundg k1
       case measure => have := HK1.out; omega
       case rel => exact ⟨(wrap64 (x6_1 + 1)), (y318), (.slice Ao17 y318.length co17), (by first | rfl | (simp; done) | (simp [*]; done)), H', ⟨by have := HK1.out; omega⟩, ⟨by (with_reducible repeat (first | apply Kd.R_alloc | apply Kd.R_drewN | apply Kd.R_drew)); exact Kd.R_mono (Kd.R_far (p := ⟨gb316, 2, none⟩) (Kd.R_types HO320.out BK316.out (by decide)) (fun _ hk => hk.2) (.slice Ao17 y318.length co17)) (fun _ hk => trivial)⟩, ⟨by (with_reducible repeat (first | refine blk_drewN ?_ _ | refine blk_drew ?_ | refine blk_alloc ?_ _)); refine blk_far ?_ NB314_316.out _; (with_reducible repeat (first | refine blk_drewN ?_ _ | refine blk_drew ?_ | refine blk_alloc ?_ _)); exact BK314.out⟩, ⟨by (with_reducible repeat (first | refine blk_drewN ?_ _ | refine blk_drew ?_ | refine blk_alloc ?_ _)); refine blk_far ?_ NB315_316.out _; (with_reducible repeat (first | refine blk_drewN ?_ _ | refine blk_drew ?_ | refine blk_alloc ?_ _)); exact BK315.out⟩, ⟨by (with_reducible repeat (first | refine blk_drewN ?_ _ | refine blk_drew ?_ | refine blk_alloc ?_ _)); refine blk_put (cs := #[.int .i64 (wrap64 (1 + (wrap64 (Int.tmod a0_0 8)))), .int .i64 (wrap64 (1 + (wrap64 (Int.tmod a0_1 8)))), u317002]) ?_ 2 _ rfl; (with_reducible repeat (first | refine blk_drewN ?_ _ | refine blk_drew ?_ | refine blk_alloc ?_ _)); exact BK316.out⟩, ⟨pB HB⟩⟩
      ·rw [if_neg c14] at H
       exact absurd H (by simp)
     ·rw [if_neg c13] at H
      exact absurd H (by simp)
    ·rw [if_neg c12] at H
     have c12b0 : decide (x6_1 < 6) = false := decide_eq_false c12
     clear c12
     simp only [Option.some.injEq, Prod.mk.injEq] at H
     obtain ⟨rfl, rfl, rfl⟩ := H
     have hnb19 := NB316_314.out
     have hnc19 := NB314_316.out
     have hnb20 := NB316_315.out
     have hnc20 := NB315_316.out
     obtain ⟨hcz21_0, hcz21_1, hcz21_2⟩ := cells3 BK316
     obtain ⟨hfz21_0, hfz21_1, hfz21_2⟩ := frz3 BK316
     have hnb22 := NB315_314.out
     have hnc22 := NB314_315.out
     obtain ⟨hcz23_0, hcz23_1, hcz23_2⟩ := cells3 BK315
     obtain ⟨hfz23_0, hfz23_1, hfz23_2⟩ := frz3 BK315
     obtain ⟨Ao24, co24, eo24⟩ := Kd.R_slice HO_317002.out
     subst eo24
     go_wp2
     refine bodyPost_ret (results_cell_row rfl _ _ gb315 27 #[.int .i64 (wrap64 (1 + (wrap64 (Int.tmod a0_0 8)))), .int .i64 (wrap64 (1 + (wrap64 (Int.tmod a0_1 8)))), .slice Ao24 x317002_1.length co24] (0, 0) _ rfl (by (with_reducible repeat (first | refine blk_drewN ?_ _ | refine blk_drew ?_ | refine blk_alloc ?_ _)); refine blk_put (cs := #[.int .i64 (wrap64 (1 + (wrap64 (Int.tmod a0_0 8)))), .int .i64 (wrap64 (1 + (wrap64 (Int.tmod a0_1 8)))), .slice none 0 0]) ?_ 2 _ rfl; (with_reducible repeat (first | refine blk_drewN ?_ _ | refine blk_drew ?_ | refine blk_alloc ?_ _)); refine blk_put (cs := #[.int .i64 (wrap64 (1 + (wrap64 (Int.tmod a0_0 8)))), .int .i64 0, .slice none 0 0]) ?_ 1 _ rfl; (with_reducible repeat (first | refine blk_drewN ?_ _ | refine blk_drew ?_ | refine blk_alloc ?_ _)); refine blk_put (cs := #[.int .i64 0, .int .i64 0, .slice none 0 0]) ?_ 0 _ rfl; (with_reducible repeat (first | refine blk_drewN ?_ _ | refine blk_drew ?_ | refine blk_alloc ?_ _)); exact BK315.out) Try.underlying27 rfl (by kernel_rfl)) rfl ?_
     exact ⟨_, by first | rfl | (simp [errW_none, errW_some] <;> rfl) | (simp [*, errW_none, errW_some] <;> rfl), by (with_reducible repeat (first | apply Kd.R_alloc | apply Kd.R_drewN | apply Kd.R_drew)); exact Kd.R_mono (Kd.R_far (p := ⟨gb315, 2, none⟩) (Kd.R_far (p := ⟨gb315, 1, none⟩) (Kd.R_far (p := ⟨gb315, 0, none⟩) (Kd.R_types HO_317002.out BK315.out (by decide)) (fun _ hk => hk.2) (.int .i64 (wrap64 (1 + (wrap64 (Int.tmod a0_0 8)))))) (fun _ hk => hk.2) (.int .i64 (wrap64 (1 + (wrap64 (Int.tmod a0_1 8)))))) (fun _ hk => hk.2) (.slice Ao24 x317002_1.length co24)) (fun _ hk => trivial), pB HB⟩
   ·rw [if_neg c11] at H
    have c11b0 : decide (x6_1 < (l1.length : Int)) = false := decide_eq_false c11
    clear c11
    simp only [Option.some.injEq, Prod.mk.injEq] at H
    obtain ⟨rfl, rfl, rfl⟩ := H
    have hnb25 := NB316_314.out
    have hnc25 := NB314_316.out
    have hnb26 := NB316_315.out
    have hnc26 := NB315_316.out
    obtain ⟨hcz27_0, hcz27_1, hcz27_2⟩ := cells3 BK316
    obtain ⟨hfz27_0, hfz27_1, hfz27_2⟩ := frz3 BK316
    have hnb28 := NB315_314.out
    have hnc28 := NB314_315.out
    obtain ⟨hcz29_0, hcz29_1, hcz29_2⟩ := cells3 BK315
    obtain ⟨hfz29_0, hfz29_1, hfz29_2⟩ := frz3 BK315
    obtain ⟨Ao30, co30, eo30⟩ := Kd.R_slice HO_317002.out
    subst eo30
    go_wp2
    refine bodyPost_ret (results_cell_row rfl _ _ gb315 27 #[.int .i64 (wrap64 (1 + (wrap64 (Int.tmod a0_0 8)))), .int .i64 (wrap64 (1 + (wrap64 (Int.tmod a0_1 8)))), .slice Ao30 x317002_1.length co30] (0, 0) _ rfl (by (with_reducible repeat (first | refine blk_drewN ?_ _ | refine blk_drew ?_ | refine blk_alloc ?_ _)); refine blk_put (cs := #[.int .i64 (wrap64 (1 + (wrap64 (Int.tmod a0_0 8)))), .int .i64 (wrap64 (1 + (wrap64 (Int.tmod a0_1 8)))), .slice none 0 0]) ?_ 2 _ rfl; (with_reducible repeat (first | refine blk_drewN ?_ _ | refine blk_drew ?_ | refine blk_alloc ?_ _)); refine blk_put (cs := #[.int .i64 (wrap64 (1 + (wrap64 (Int.tmod a0_0 8)))), .int .i64 0, .slice none 0 0]) ?_ 1 _ rfl; (with_reducible repeat (first | refine blk_drewN ?_ _ | refine blk_drew ?_ | refine blk_alloc ?_ _)); refine blk_put (cs := #[.int .i64 0, .int .i64 0, .slice none 0 0]) ?_ 0 _ rfl; (with_reducible repeat (first | refine blk_drewN ?_ _ | refine blk_drew ?_ | refine blk_alloc ?_ _)); exact BK315.out) Try.underlying27 rfl (by kernel_rfl)) rfl ?_
    exact ⟨_, by first | rfl | (simp [errW_none, errW_some] <;> rfl) | (simp [*, errW_none, errW_some] <;> rfl), by (with_reducible repeat (first | apply Kd.R_alloc | apply Kd.R_drewN | apply Kd.R_drew)); exact Kd.R_mono (Kd.R_far (p := ⟨gb315, 2, none⟩) (Kd.R_far (p := ⟨gb315, 1, none⟩) (Kd.R_far (p := ⟨gb315, 0, none⟩) (Kd.R_types HO_317002.out BK315.out (by decide)) (fun _ hk => hk.2) (.int .i64 (wrap64 (1 + (wrap64 (Int.tmod a0_0 8)))))) (fun _ hk => hk.2) (.int .i64 (wrap64 (1 + (wrap64 (Int.tmod a0_1 8)))))) (fun _ hk => hk.2) (.slice Ao30 x317002_1.length co30)) (fun _ hk => trivial), pB HB⟩

end Go.Proofs.Ytpfiecjacpbhkaa.D

/- insolvencylaw0.Matters comes to the filings 'matGo' of its first 24 rows: no condition. -/
namespace Go.Proofs.Ytpfiecjacpbhkaa.D
open Go.RowKit Go.Maps Go.Proofs.YtpfiecjacpbhkaaW.PrintWords Go.Proofs.YtpfiecjacpbhkaaW.PrintLast Go.Proofs.YtpfiecjacpbhkaaW.PrintMore
set_option linter.unusedVariables false
set_option linter.unusedSimpArgs false

/-- The filings of the rows: the day so far, the stage of each matter. -/
def matGo : List S83 → Int → (Int → Int) → List S47
  | [], _, _ => []
  | x :: r, day, st =>
    if 6 ≤ st (wrap64 (Int.tmod x.f2 4)) then matGo r (wrap64 (day + wrap64 (Int.tmod x.f1 4))) st
    else ⟨wrap64 (1 + st (wrap64 (Int.tmod x.f2 4))), wrap64 (day + wrap64 (Int.tmod x.f1 4)), wrap64 (Int.tmod x.f2 4), wrap64 (Int.tmod x.f3 4)⟩ ::
      matGo r (wrap64 (day + wrap64 (Int.tmod x.f1 4))) (fun i => if i = wrap64 (Int.tmod x.f2 4) then wrap64 (st (wrap64 (Int.tmod x.f2 4)) + 1) else st i)
def law0_Matters.f (k : Nat) (l0 : List S83) : Option (List S47) := some (matGo (l0.take 24) 0 (fun _ => 0))
theorem law0_Matters.mono : ∀ a0 k, LeO (law0_Matters.f k a0) (law0_Matters.f (k + 1) a0) := fun _ _ => LeO.refl _

theorem undMapI : Try.prog.underlying 82 = some (.map 3 3) := by kernel_rfl
theorem undI : Try.prog.underlying 3 = some (.int .i64) := by kernel_rfl
theorem zeroI (w : World) : (zeroValue 3).run Try.prog w = .ok (.int .i64 0) w := by kernel_rfl
theorem keyI (i : Int) (hi : (Lit.int .i64 i).wf = true) : keyOf Try.prog 3 (.int .i64 i) = some (.int .i64 i) := by simp [keyOf, undI, mapKey, hi]
theorem lawI : Keyed Try.prog 3 := int_keyed undI
theorem wf64 (x : Int) : (Lit.int .i64 (wrap64 x)).wf = true := by
  simp [Lit.wf, IntKind.min, IntKind.max, IntKind.signed, IntKind.bits]
  unfold wrap64
  omega

/-- Block g is the table f, of at most m entries. -/
def IsTab (W : World) (g : Nat) (f : Int → Int) (m : Nat) : Prop :=
  ∃ n D, n ≤ m ∧ W.ownsMap Try.prog 3 (plainElem (H := Unit) Try.prog 3) g n D ∧ ∀ i : Int, (Lit.int .i64 i).wf = true → D.atKey (.int .i64 i) (.lit (.int .i64 0)) = .lit (.int .i64 (f i))
theorem IsTab.lt {W : World} {g m : Nat} {f : Int → Int} (h : IsTab W g f m) : g < W.heap.size := by
  obtain ⟨n, D, _, h2, _⟩ := h
  exact h2.lt
theorem IsTab.made (w : World) : IsTab (w.alloc (.map #[] 0)) w.heap.size (fun _ => 0) 0 := ⟨0, .map [], Nat.le_refl _, World.ownsMap_made w _ _ _, fun i _ => by simp [DataW.atKey]⟩
theorem IsTab.alloc {W : World} {g m : Nat} {f : Int → Int} (h : IsTab W g f m) (o : Obj) : IsTab (W.alloc o) g f m := by
  obtain ⟨n, D, h1, h2, h3⟩ := h
  exact ⟨n, D, h1, h2.alloc o, h3⟩
theorem IsTab.grown {W W' : World} {row : Option Nat} {g m : Nat} {f : Int → Int} (h : IsTab W g f m) (hg : W.grownBy W' row) (hne : some g ≠ row) : IsTab W' g f m := by
  obtain ⟨n, D, h1, h2, h3⟩ := h
  exact ⟨n, D, h1, h2.kept hg hne, h3⟩
theorem IsTab.le {W : World} {g m m' : Nat} {f : Int → Int} (h : IsTab W g f m) (hm : m ≤ m') : IsTab W g f m' := by
  obtain ⟨n, D, h1, h2⟩ := h
  exact ⟨n, D, by omega, h2⟩
theorem IsTab.obj {W : World} {g m : Nat} {f : Int → Int} (h : IsTab W g f m) : ∃ es ck, W.heap[g]? = some (.map es ck) := by
  obtain ⟨n, D, h1, ⟨es, ck, hb, F, hs, hD⟩, h3⟩ := h
  exact ⟨es, ck, hb⟩
theorem R_ne_tab {α : Type} {d : Kd α} {e base g m : Nat} {w : World} {ok : Nat → Prop} {v : Value} {xs : List α} {f : Int → Int} (h : d.R e w base ok v xs) (ht : IsTab w g f m) : some g ≠ v.ownBlock := by
  obtain ⟨es, ck, hb⟩ := ht.obj
  obtain ⟨inner, ho, _⟩ := h.2
  rcases ho.2 with ⟨rfl, _⟩ | ⟨g', cap, cur, rfl, _, hh, _⟩
  · simp [Value.ownBlock]
  · intro he
    have e' : g = g' := by simpa [Value.ownBlock] using he
    subst e'
    rw [hb] at hh
    cases hh

theorem R_tab {α : Type} {d : Kd α} {e base g m : Nat} {w w' : World} {ok : Nat → Prop} {v : Value} {xs : List α} {f : Int → Int} (h : d.R e w base ok v xs) (ht : IsTab w g f m) (hg : w.grownBy w' (some g)) : d.R e w' base ok v xs := by
  obtain ⟨es, ck, hb⟩ := ht.obj
  refine Kd.R_mono (Kd.R_step (Kd.R_bound h) (fun k hk hlt => hg.block k hlt ?_)) (fun _ hk => hk.1)
  intro he
  have e' : k = g := by simpa using he
  subst e'
  obtain ⟨_, _, _, q, hq, cs, hc⟩ := hk
  rw [hb] at hc
  cases hc
section
variable {P : Program} {ops : Array Oper} {Q : Exit → Act → World → Prop}
theorem gate_look {t : TypeId} {m x : Operand} {c : Bool} {o : Oper} {rest : List Oper} {a : Act} {W : World} (_ho : o.op = Op.lookup t m x c) (h : wpList P ops Q (o :: rest) a W) : wpList P ops Q (o :: rest) a W := h
theorem gate_put {t : TypeId} {m x v : Operand} {o : Oper} {rest : List Oper} {a : Act} {W : World} (_ho : o.op = Op.mapUpdate t m x v) (h : wpList P ops Q (o :: rest) a W) : wpList P ops Q (o :: rest) a W := h
theorem lookT_ {rest : List Oper} {o : Oper} {a : Act} {w : World} (hg : o.guard = none) {m x : Operand} (hop : o.op = Op.lookup 82 m x false)
    {g n : Nat} {f : Int → Int} (i : Int) (hm : a.eval m = .map (some g)) (hx : a.eval x = .int .i64 i) (hs : IsTab w g f n) (hi : (Lit.int .i64 i).wf = true)
    (h : wpList Try.prog ops Q rest (a.put o.dst (.int .i64 (f i))) w) : wpList Try.prog ops Q (o :: rest) a w := by
  obtain ⟨n, D, _, h2, h3⟩ := hs
  refine wpList_lookup_own_int w hg m x 82 hop 3 3 .i64 lawI undMapI undI (zeroI w) g n D hm h2 _ _ hx (keyI i hi) (fun c hc _ => ?_)
  have e := hc.symm.trans (h3 i hi)
  simp only [DataW.lit.injEq, Lit.int.injEq, true_and] at e
  rw [e]
  exact h
theorem putT_ {rest : List Oper} {o : Oper} {a : Act} {w : World} (hd : o.dst = none) (hg : o.guard = none) {m x v : Operand} (hop : o.op = Op.mapUpdate 82 m x v)
    {g n : Nat} {f : Int → Int} (i y : Int) (hm : a.eval m = .map (some g)) (hx : a.eval x = .int .i64 i) (hv : a.eval v = .int .i64 y) (hs : IsTab w g f n) (hi : (Lit.int .i64 i).wf = true) (hy : (Lit.int .i64 y).wf = true) (hn : n < maxLen)
    (h : ∀ w', IsTab w' g (fun j => if j = i then y else f j) (n + 1) → w.grownBy w' (some g) → wpList Try.prog ops Q rest (a.put none undef) w') : wpList Try.prog ops Q (o :: rest) a w := by
  obtain ⟨n', D, h1, h2, h3⟩ := hs
  refine wpList_mapUpdate_own w hg m x v 82 hop 3 3 lawI undMapI _ g n' D hm h2 (by omega) _ _ _ hx hv (keyI i hi) _ [] (plainElem_int undI hy) ?_
  intro w' o1 o2
  rw [hd]
  refine h w' ⟨n' + 1, _, by omega, o1, ?_⟩ o2
  intro j hj
  have hM : IsMap D := by obtain ⟨es, clock, _, _, _, rfl⟩ := h2; exact ⟨_, rfl⟩
  by_cases e : j = i
  · subst e
    rw [atKey_put_same hM (lawI.key (keyI j hj))]
    simp
  · rw [atKey_put_other (by simpa using e), h3 j hj]
    simp [e]
end

theorem mat_step (l : List S83) (j : Nat) (h : j < l.length) (day : Int) (st : Int → Int) (acc r : List S47) (I : acc ++ matGo (l.drop j) day st = r) :
    (6 ≤ st (wrap64 (Int.tmod l[j].f2 4)) → acc ++ matGo (l.drop (j + 1)) (wrap64 (day + wrap64 (Int.tmod l[j].f1 4))) st = r) ∧
    (¬ 6 ≤ st (wrap64 (Int.tmod l[j].f2 4)) → (acc ++ [⟨wrap64 (1 + st (wrap64 (Int.tmod l[j].f2 4))), wrap64 (day + wrap64 (Int.tmod l[j].f1 4)), wrap64 (Int.tmod l[j].f2 4), wrap64 (Int.tmod l[j].f3 4)⟩]) ++
      matGo (l.drop (j + 1)) (wrap64 (day + wrap64 (Int.tmod l[j].f1 4))) (fun i => if i = wrap64 (Int.tmod l[j].f2 4) then wrap64 (st (wrap64 (Int.tmod l[j].f2 4)) + 1) else st i) = r) := by
  rw [List.drop_eq_getElem_cons h, matGo] at I
  constructor
  · intro h6
    rw [if_pos h6] at I
    exact I
  · intro h6
    rw [if_neg h6] at I
    rw [List.append_assoc]
    exact I

theorem meas24 {n j : Nat} {x : Int} (hx : x = ((j + 1 : Nat) : Int)) (h : j < n) : n - (intOf (.int .i64 x)).toNat < n - (intOf (.int .i64 (j : Int))).toNat := by
  subst hx
  show n - Int.toNat ((j + 1 : Nat) : Int) < n - Int.toNat (j : Int)
  rw [Int.toNat_natCast, Int.toNat_natCast]
  omega
theorem w64s (j : Nat) (h : j < 24) : wrap64 ((j : Int) + 1) = ((j + 1 : Nat) : Int) := by unfold wrap64; omega

set_option maxHeartbeats 8000000 in
set_option maxRecDepth 100000 in
theorem law0_Matters.calls (k : Nat) (A0 : Option Addr) (c0 : Nat) (l0 : List S83) (r : List S47) (w : World) (hr0 : Kd.C k83 w A0 l0.length l0) (hc0 : l0.length ≤ c0) (h : law0_Matters.f k l0 = some r) :
    Calls Try.prog 19 #[.slice A0 l0.length c0] w fun e w' => ∃ v0_ : Value, e = .returned (v0_) ∧ Kd.R k47 47 w' w.heap.size (fun _ => True) v0_ r ∧ Below w.heap.size w w' := by
  have hu := Try.underlying83
  have hu2 := Try.underlying47
  have hmm := @run_makeMap Try.prog
  have I0 : ([] : List S47) ++ matGo ((l0.take 24).drop 0) 0 (fun _ => 0) = r := Option.some.inj h
  clear h
  have HR := Aside0.mk hr0
  have R0 := Aside0.mk I0
  clear hr0 I0
  go_enter Try.func19, Try.ntmps19
  go_wp2
  have T0 := IsTab.made w
  have B0 : Below w.heap.size w (w.alloc (.map #[] 0)) := below_alloc (Below.refl _ _) _
  generalize w.alloc (.map #[] 0) = wm at T0 B0 ⊢
  have HB0 := Aside0.mk B0
  have HT0 := Aside0.mk T0
  clear B0 T0
  go_loopg [3, 4, 6] 24 (fun kx s3 s4 s6 wr => ∃ (j : Nat) (day : Int) (st : Int → Int) (acc : List S47), s4 = .int .i64 day ∧ s6 = .int .i64 j ∧ j ≤ l0.length ∧ j ≤ 24 ∧ 24 - j ≤ kx ∧ acc.length ≤ j ∧ Aside0 (IsTab wr w.heap.size st j) ∧ Aside0 (acc ++ matGo ((l0.take 24).drop j) day st = r) ∧
      Aside0 (Kd.R k47 47 wr w.heap.size (fun _ => True) s3 acc) ∧ Aside0 (Below w.heap.size w wr))
  case atStart => exact ⟨0, 0, fun _ => 0, [], rfl, rfl, Nat.zero_le _, by omega, by omega, Nat.le_refl _, HT0, R0, ⟨Kd.R_nil _ _ _ _ _⟩, HB0⟩
  case round =>
    obtain ⟨j, day, st, acc, rfl, rfl, hj, hj4, hk, hac, TT, I, RR, HB⟩ := hrel
    clear R0 HB0 HT0
    obtain ⟨A3, c3, rfl⟩ := Kd.R_slice RR.out
    by_cases hlt : j < l0.length
    · have hd : decide ((j : Int) < (l0.length : Int)) = true := decide_eq_true (by omega)
      by_cases h24 : j < 24
      · obtain ⟨k1, rfl⟩ : ∃ m, gk = m + 1 := ⟨gk - 1, by omega⟩
        have hd2 : decide ((j : Int) < 24) = true := decide_eq_true (by omega)
        have p0 : 0 ≤ (j : Int) := Int.natCast_nonneg j
        have q0 : (j : Int) < (l0.length : Int) := by omega
        have hjt : j < (l0.take 24).length := by rw [List.length_take]; omega
        have er : rd_T83 l0 (j : Int) = (l0.take 24)[j] := by
          unfold rd_T83
          rw [Int.toNat_natCast, List.getD_eq_getElem?_getD, List.getElem?_eq_getElem hlt, List.getElem_take]
          rfl
        have ms := mat_step (l0.take 24) j hjt day st acc r I.out
        obtain ⟨ad, ea, h0, h1, h2, h3⟩ := at_T83 HR.out (j : Int) p0 q0
        cases ea
        rw [er, Int.toNat_natCast] at h0 h1 h2 h3
        replace h0 := (HB.out.cell (World.block_lt_of_cell? w _ h0)).trans h0
        replace h1 := (HB.out.cell (World.block_lt_of_cell? w _ h1)).trans h1
        replace h2 := (HB.out.cell (World.block_lt_of_cell? w _ h2)).trans h2
        replace h3 := (HB.out.cell (World.block_lt_of_cell? w _ h3)).trans h3
        have hw := w64s j h24
        generalize (l0.take 24)[j] = y at *
        have p1 := eq_true p0
        have q1 := eq_true q0
        have TA := Aside0.mk (TT.out.alloc (.cells #[.int .u8 y.f0, .int .u8 y.f1, .int .u8 y.f2, .int .u8 y.f3] 83 (0, 0)))
        clear p0 q0 I er hjt
        by_cases h6 : 6 ≤ st (wrap64 (Int.tmod y.f2 4))
        · have hd3 : decide (6 ≤ st (wrap64 (Int.tmod y.f2 4))) = true := decide_eq_true h6
          have I2 := Aside0.mk (ms.1 h6)
          clear ms h6
          go_wp2_with ((with_reducible refine gate_look (t := 82) rfl ?_); refine lookT_ rfl rfl (wrap64 (Int.tmod y.f2 4)) rfl rfl TA.out (wf64 _) ?_)
          go_roundg k1
          case measure => omega
          case rel => exact ⟨j + 1, _, st, acc, rfl, by first | rw [hw] | (simp only [hw]; done) | go_num, by omega, by omega, by omega, by omega, ⟨TA.out.le (Nat.le_succ j)⟩, I2, ⟨Kd.R_alloc RR.out _⟩, ⟨below_alloc HB.out _⟩⟩
        · have hd3 : decide (6 ≤ st (wrap64 (Int.tmod y.f2 4))) = false := decide_eq_false h6
          have I2 := Aside0.mk (ms.2 h6)
          clear ms h6
          have KX := blk_new wr (.cells #[.int .u8 y.f0, .int .u8 y.f1, .int .u8 y.f2, .int .u8 y.f3] 83 (0, 0))
          have hne : some wr.heap.size ≠ some w.heap.size := by have := TT.out.lt; simp; omega
          go_wp2_with (first | ((with_reducible refine gate_look (t := 82) rfl ?_); refine lookT_ rfl rfl (wrap64 (Int.tmod y.f2 4)) rfl rfl TA.out (wf64 _) ?_) |
            ((with_reducible refine gate_put (t := 82) rfl ?_); refine putT_ rfl rfl rfl (wrap64 (Int.tmod y.f2 4)) (wrap64 (st (wrap64 (Int.tmod y.f2 4)) + 1)) rfl rfl rfl TA.out (wf64 _) (wf64 _) ?hn ?_; (case hn => unfold maxLen; omega); intro w2 T2 hg2; have K2 := blk_grown KX hg2 hne; have R2 := R_tab (Kd.R_alloc RR.out _) TA.out hg2; have B2 : Below w.heap.size w w2 := (below_alloc HB.out _).grown hg2 (below_alloc HB.out _).size (fun k hk => by cases hk; exact Nat.le_refl _); obtain ⟨kc0, kc1, kc2, kc3⟩ := cells4 ⟨K2⟩) |
            ((with_reducible refine gate_builtin (b := .append) (xs := #[.tmp 44, .tmp 54]) rfl ?_); at_builtin; refine Kd.R_append k47 (w0 := w) w.heap.size rfl (.tmp 44) (.tmp 54) 43 47 (.agg #[(.int .i64 0), (.int .i64 0), (.int .i64 0), (.int .i64 0)]) 32 rfl Try.underlying43 info47 rfl (by decide) (by omega) _ acc (⟨wrap64 (1 + st (wrap64 (Int.tmod y.f2 4))), wrap64 (day + wrap64 (Int.tmod y.f1 4)), wrap64 (Int.tmod y.f2 4), wrap64 (Int.tmod y.f3 4)⟩ : S47) [.int .i64 (wrap64 (1 + st (wrap64 (Int.tmod y.f2 4)))), .int .i64 (wrap64 (day + wrap64 (Int.tmod y.f1 4))), .int .i64 (wrap64 (Int.tmod y.f2 4)), .int .i64 (wrap64 (Int.tmod y.f3 4))] (fun _ => True) (fun _ => False) rfl rfl ?aP (fun _ hk => hk.elim) ?aF ?aO ?aB ?aS ?aL ?_; (case aP => exact k47_mkM _ _ _ (⟨_, _, _, _⟩ : S47)); (case aB => exact B2); (case aF => exact (fun _ _ => trivial)); (case aO => exact R2); (case aS => exact B2.size); (case aL => omega); intro v5 w5 ho5 hb5 hgr hat; obtain ⟨A6, c6, rfl⟩ := Kd.R_slice ho5; have T5 := T2.grown hgr (R_ne_tab R2 T2)))
          go_roundg k1
          case measure => omega
          case rel => exact ⟨j + 1, _, _, _, rfl, by first | rw [hw] | (simp only [hw]; done) | go_num, by omega, by omega, by omega, by simp; omega, ⟨T5⟩, I2, ⟨by simpa using Kd.R_mono ho5 (fun _ _ => trivial)⟩, ⟨hb5⟩⟩
      · obtain rfl : j = 24 := by omega
        have I2 := I.out
        rw [List.drop_eq_nil_of_le (by rw [List.length_take]; omega), matGo, List.append_nil] at I2
        subst I2
        have hd2 : decide (((24 : Nat) : Int) < 24) = false := decide_eq_false (by omega)
        clear TT I
        go_wp2
        go_ret
        exact ⟨_, rfl, RR.out, HB.out⟩
    · obtain rfl : j = l0.length := by omega
      have I2 := I.out
      rw [List.drop_eq_nil_of_le (by rw [List.length_take]; omega), matGo, List.append_nil] at I2
      subst I2
      have hd : decide ((l0.length : Int) < (l0.length : Int)) = false := decide_eq_false (by omega)
      clear TT I
      go_wp2
      go_ret
      exact ⟨_, rfl, RR.out, HB.out⟩
end Go.Proofs.Ytpfiecjacpbhkaa.D
