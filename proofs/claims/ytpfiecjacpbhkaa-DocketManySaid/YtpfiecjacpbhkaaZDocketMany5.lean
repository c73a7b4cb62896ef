/- Part 5 of 6 of the proof of DocketMany: texts of this claim put one behind the other by a program; each begins with its own words. -/
import Derived.Deep.RegionHeld3
import Derived.Test.YtpfiecjacpbhkaaZDocketMany4
/- What the Go functions named below come to, each told as_ a Lean function ('.f'), with the proof ('.calls'): no condition beyond those that each theorem states. Written by a program of this session's over the translation. -/
namespace Go.Proofs.Ytpfiecjacpbhkaa.D
open Go.RowKit Go.Proofs.YtpfiecjacpbhkaaW.PrintWords Go.Proofs.YtpfiecjacpbhkaaW.PrintLast Go.Proofs.YtpfiecjacpbhkaaW.PrintMore
attribute [local go_sem] max2_int min2_int max_two min_two max_three min_three max_four min_four   -- for this text's walks alone
set_option linter.unusedVariables false
set_option linter.unusedSimpArgs false

/-! ### insolvencyref33_Advance: function 27 -/
def insolvencyref33_Advance.f (k : Nat) (a0_0 : Int) (a0_1 : Int) (a0_2 : Int) (l0_3 : List Int) (l0_4 : List (S50)) (a1 : Int) : Option (Int × Int × Int × List Int × (List (S50)) × (List (S52)) × Int) := (insolvencyref33_CheckDocket.f k a0_0 a0_1 a0_2 l0_3 l0_4).bind fun t482 => (if t482 = 0 then ((insolvencyref33_day.f a1).bind fun t483 => (if t483 = true then (if a1 < a0_0 then (some (0, 0, 0, ([] : List Int), ([] : List (S50)), ([] : List (S52)), 15)) else ((insolvencyref33_lapsed.f k a0_0 a0_1 a0_2 l0_3 l0_4 a1).bind fun bt484 => (some (bt484.1, bt484.2.1, bt484.2.2.1, bt484.2.2.2.1, bt484.2.2.2.2.1, bt484.2.2.2.2.2, 0)))) else (some (0, 0, 0, ([] : List Int), ([] : List (S50)), ([] : List (S52)), 1)))) else (some (0, 0, 0, ([] : List Int), ([] : List (S50)), ([] : List (S52)), t482)))
theorem insolvencyref33_Advance.mono : ∀ a0 a1 a2 a3 a4 a5 k, LeO (insolvencyref33_Advance.f k a0 a1 a2 a3 a4 a5) (insolvencyref33_Advance.f (k + 1) a0 a1 a2 a3 a4 a5) := by
 intro a0 a1 a2 a3 a4 a5 k
 unfold insolvencyref33_Advance.f
 repeat' first
   | (with_reducible exact insolvencyref33_CheckDocket.mono _ _ _ _ _ _)
   | (with_reducible exact insolvencyref33_lapsed.mono _ _ _ _ _ _ _)
   | (with_reducible exact LeO.refl _)
   | (with_reducible exact LeO.none _)
   | (with_reducible refine LeO.ite ?_ ?_)
   | (with_reducible refine LeO.bind ?_ (fun _ => ?_))
   | exact insolvencyref33_CheckDocket.mono _ _ _ _ _ _
   | exact insolvencyref33_lapsed.mono _ _ _ _ _ _ _
   | exact LeO.none _
   | refine LeO.ite ?_ ?_
   | refine LeO.bind ?_ (fun _ => ?_)
set_option maxHeartbeats 8000000 in
set_option maxRecDepth 100000 in
theorem insolvencyref33_Advance.calls (k : Nat) (a0_0 : Int) (a0_1 : Int) (a0_2 : Int) (A0_3 : Option Addr) (c0_3 : Nat) (l0_3 : List Int) (A0_4 : Option Addr) (c0_4 : Nat) (l0_4 : List (S50)) (a1 : Int) (r1 : Int) (r2 : Int) (r3 : Int) (r4 : List Int) (r5 : List (S50)) (r6 : List (S52)) (r7 : Int) (w : World) (hr0_3 : Kd.C (Kd.int .i64) w A0_3 l0_3.length l0_3) (hc0_3 : l0_3.length ≤ c0_3) (hr0_4 : Kd.C k50 w A0_4 l0_4.length l0_4) (hc0_4 : l0_4.length ≤ c0_4) (h : insolvencyref33_Advance.f k a0_0 a0_1 a0_2 l0_3 l0_4 a1 = some (r1, r2, r3, r4, r5, r6, r7)) :
  Calls Try.prog 27 #[.agg #[.int .i64 a0_0, .int .i64 a0_1, .int .i64 a0_2, .slice A0_3 l0_3.length c0_3, .slice A0_4 l0_4.length c0_4], .int .i64 a1] w fun e w' => ∃ v3_ v4_ v5_ : Value, e = .returned (.tuple #[.agg #[.int .i64 r1, .int .i64 r2, .int .i64 r3, v3_, v4_], v5_, .int .i64 r7]) ∧ Kd.R (Kd.int .i64) 3 w' w.heap.size (fun _ => True) v3_ r4 ∧ Kd.R k50 50 w' w.heap.size (fun _ => True) v4_ r5 ∧ Kd.R k52 52 w' w.heap.size (fun _ => True) v5_ r6 ∧ Below w.heap.size w w' := by
 have hu30 := Try.underlying30
 have HR0_3 := Aside0.mk hr0_3
 have HC0_3 := Aside0.mk hc0_3
 clear hr0_3 hc0_3
 have HR0_4 := Aside0.mk hr0_4
 have HC0_4 := Aside0.mk hc0_4
 clear hr0_4 hc0_4
 have HB := Aside0.mk (Below.refl w.heap.size w)
 have H : ((insolvencyref33_CheckDocket.f k a0_0 a0_1 a0_2 l0_3 l0_4).bind fun t482 => (if t482 = 0 then ((insolvencyref33_day.f a1).bind fun t483 => (if t483 = true then (if a1 < a0_0 then (some (0, 0, 0, ([] : List Int), ([] : List (S50)), ([] : List (S52)), 15)) else ((insolvencyref33_lapsed.f k a0_0 a0_1 a0_2 l0_3 l0_4 a1).bind fun bt484 => (some (bt484.1, bt484.2.1, bt484.2.2.1, bt484.2.2.2.1, bt484.2.2.2.2.1, bt484.2.2.2.2.2, 0)))) else (some (0, 0, 0, ([] : List Int), ([] : List (S50)), ([] : List (S52)), 1)))) else (some (0, 0, 0, ([] : List Int), ([] : List (S50)), ([] : List (S52)), t482)))) = some (r1, r2, r3, r4, r5, r6, r7) := h
 clear h
 replace H := Option.bind_eq_some_iff.mp H
 obtain ⟨t482, A30, H⟩ := H
 replace H : (if t482 = 0 then ((insolvencyref33_day.f a1).bind fun t483 => (if t483 = true then (if a1 < a0_0 then (some (0, 0, 0, ([] : List Int), ([] : List (S50)), ([] : List (S52)), 15)) else ((insolvencyref33_lapsed.f k a0_0 a0_1 a0_2 l0_3 l0_4 a1).bind fun bt484 => (some (bt484.1, bt484.2.1, bt484.2.2.1, bt484.2.2.2.1, bt484.2.2.2.2.1, bt484.2.2.2.2.2, 0)))) else (some (0, 0, 0, ([] : List Int), ([] : List (S50)), ([] : List (S52)), 1)))) else (some (0, 0, 0, ([] : List Int), ([] : List (S50)), ([] : List (S52)), t482))) = some (r1, r2, r3, r4, r5, r6, r7) := H
 have A3 := Aside0.mk A30
 clear A30
 by_cases c4 : t482 = 0
 ·rw [if_pos c4] at H
  have c4b0 : (t482 == 0) = true := beq_iff_eq.mpr c4
  have c4b1 : (t482 != 0) = false := bne_eq_false_iff_eq.mpr c4
  clear c4
  replace H := Option.bind_eq_some_iff.mp H
  obtain ⟨t483, A50, H⟩ := H
  replace H : (if t483 = true then (if a1 < a0_0 then (some (0, 0, 0, ([] : List Int), ([] : List (S50)), ([] : List (S52)), 15)) else ((insolvencyref33_lapsed.f k a0_0 a0_1 a0_2 l0_3 l0_4 a1).bind fun bt484 => (some (bt484.1, bt484.2.1, bt484.2.2.1, bt484.2.2.2.1, bt484.2.2.2.2.1, bt484.2.2.2.2.2, 0)))) else (some (0, 0, 0, ([] : List Int), ([] : List (S50)), ([] : List (S52)), 1))) = some (r1, r2, r3, r4, r5, r6, r7) := H
  have A5 := Aside0.mk A50
  clear A50
  by_cases c6 : t483 = true
  ·subst c6
   have H1 : (if a1 < a0_0 then (some (0, 0, 0, ([] : List Int), ([] : List (S50)), ([] : List (S52)), 15)) else ((insolvencyref33_lapsed.f k a0_0 a0_1 a0_2 l0_3 l0_4 a1).bind fun bt484 => (some (bt484.1, bt484.2.1, bt484.2.2.1, bt484.2.2.2.1, bt484.2.2.2.2.1, bt484.2.2.2.2.2, 0)))) = some (r1, r2, r3, r4, r5, r6, r7) := by rw [if_pos rfl] at H; exact H
   clear H
   have H := H1
   clear H1
   by_cases c7 : a1 < a0_0
   ·rw [if_pos c7] at H
    have c7b0 : decide (a1 < a0_0) = true := decide_eq_true c7
    clear c7
    simp only [Option.some.injEq, Prod.mk.injEq] at H
    obtain ⟨rfl, rfl, rfl, rfl, rfl, rfl, rfl⟩ := H
    go_enter Try.func27, Try.ntmps27
    go_wp2_with (first | ((with_reducible refine gate_dst (N := 2) rfl ?_); refine boxE (N := 2) #[.int .i64 a0_0, .int .i64 a0_1, .int .i64 a0_2, .slice A0_3 l0_3.length c0_3, .slice A0_4 l0_4.length c0_4] 30 ?_; intro gb480 hg w8 hbox hb; have BK480 := Aside0.mk (hbox); have GW480 := gS HB hg; have GE480 := gS HB hg; replace HB := Aside0.mk (below_step (pB HB) hb); clear hb hbox hg) | ((with_reducible refine gate_dst (N := 4) rfl ?_); refine boxE (N := 4) #[.int .i64 0, .int .i64 0, .int .i64 0, .slice none 0 0, .slice none 0 0] 30 ?_; intro gb481 hg w9 hbox hb; have BK481 := Aside0.mk (hbox); have GW481 := gS HB hg; have GE481 := gS HB hg; have NB480_481 := nL BK480 hg; have NB481_480 := nG BK480 hg; replace BK480 := bB BK480 hb; replace HB := Aside0.mk (below_step (pB HB) hb); clear hb hbox hg; have hnb10 := NB480_481.out; have hnc10 := NB481_480.out; obtain ⟨hcz11_0, hcz11_1, hcz11_2, hcz11_3, hcz11_4⟩ := cells5 BK480; obtain ⟨hfz11_0, hfz11_1, hfz11_2, hfz11_3, hfz11_4⟩ := frz5 BK480) | ((with_reducible refine gate_callee (f := 24) rfl ?_); refine goesL_ (some 11) rfl rfl Try.func24 (by kernel_rfl) rfl #[.agg #[.int .i64 a0_0, .int .i64 a0_1, .int .i64 a0_2, .slice A0_3 l0_3.length c0_3, .slice A0_4 l0_4.length c0_4]] rfl (by (try simp only [List.map_toArray, List.map_cons, List.map_nil]); first | done | rfl | (simp only [List.length_drop, List.length_take]; rfl)) ?_; (with_reducible refine (insolvencyref33_CheckDocket.calls k a0_0 a0_1 a0_2 _ _ l0_3 _ _ l0_4 t482 _ ?side1 ?side2 ?side3 ?side4 A3.out).mono ?_); (case side1 => exact cB HR0_3 HB); (case side2 => exact HC0_3.out); (case side3 => exact cB HR0_4 HB); (case side4 => exact HC0_4.out); rintro e w12 ⟨rfl, hb⟩; refine ⟨_, rfl, ?_⟩; replace BK480 := bB BK480 hb; replace BK481 := bB BK481 hb; replace HB := Aside0.mk (below_step (pB HB) hb); (try clear hb)) | ((with_reducible refine gate_callee (f := 44) rfl ?_); refine goesL_ (some 17) rfl rfl Try.func44 (by kernel_rfl) rfl #[.int .i64 a1] rfl (by (try simp only [List.map_toArray, List.map_cons, List.map_nil]); first | done | rfl | (simp only [List.length_drop, List.length_take]; rfl)) ?_; (with_reducible refine (insolvencyref33_day.calls a1 true _ A5.out).mono ?_); rintro e w' ⟨rfl, ⟨nd, rfl⟩⟩; refine ⟨_, rfl, ?_⟩; (try (rw [drewN_self w12]; generalize hq_ : World.drewN w12 _ = w12; have n0_ : Aside0 (w12.heap[gb480]? = some (.cells #[.int .i64 a0_0, .int .i64 a0_1, .int .i64 a0_2, .slice A0_3 l0_3.length c0_3, .slice A0_4 l0_4.length c0_4] 30 (0, 0))) := ⟨by rw [← hq_]; exact (by (with_reducible repeat (first | refine blk_drewN ?_ _ | refine blk_drew ?_ | refine blk_alloc ?_ _)); exact BK480.out)⟩; have n1_ : Aside0 (w12.heap[gb481]? = some (.cells #[.int .i64 0, .int .i64 0, .int .i64 0, .slice none 0 0, .slice none 0 0] 30 (0, 0))) := ⟨by rw [← hq_]; exact (by (with_reducible repeat (first | refine blk_drewN ?_ _ | refine blk_drew ?_ | refine blk_alloc ?_ _)); exact BK481.out)⟩; have n2_ : Aside0 (Below w.heap.size w w12) := ⟨by rw [← hq_]; exact (pB HB)⟩; clear BK480 BK481 HB hq_; have BK480 := n0_; have BK481 := n1_; have HB := n2_; clear n0_ n1_ n2_)); obtain ⟨hcz13_0, hcz13_1, hcz13_2, hcz13_3, hcz13_4⟩ := cells5 BK480; obtain ⟨hfz13_0, hfz13_1, hfz13_2, hfz13_3, hfz13_4⟩ := frz5 BK480; obtain ⟨hcz14_0, hcz14_1, hcz14_2, hcz14_3, hcz14_4⟩ := cells5 BK481; obtain ⟨hfz14_0, hfz14_1, hfz14_2, hfz14_3, hfz14_4⟩ := frz5 BK481))
    refine bodyPost_ret (results_ctt rfl _ _ gb481 30 #[.int .i64 0, .int .i64 0, .int .i64 0, .slice none 0 0, .slice none 0 0] (0, 0) _ rfl (by (with_reducible repeat (first | refine blk_drewN ?_ _ | refine blk_drew ?_ | refine blk_alloc ?_ _)); refine blk_put (cs := #[.int .i64 0, .int .i64 0, .int .i64 0, .slice none 0 0, .slice none 0 0]) ?_ 4 _ rfl; (with_reducible repeat (first | refine blk_drewN ?_ _ | refine blk_drew ?_ | refine blk_alloc ?_ _)); refine blk_put (cs := #[.int .i64 0, .int .i64 0, .int .i64 0, .slice none 0 0, .slice none 0 0]) ?_ 3 _ rfl; (with_reducible repeat (first | refine blk_drewN ?_ _ | refine blk_drew ?_ | refine blk_alloc ?_ _)); refine blk_put (cs := #[.int .i64 0, .int .i64 0, .int .i64 0, .slice none 0 0, .slice none 0 0]) ?_ 2 _ rfl; (with_reducible repeat (first | refine blk_drewN ?_ _ | refine blk_drew ?_ | refine blk_alloc ?_ _)); refine blk_put (cs := #[.int .i64 0, .int .i64 0, .int .i64 0, .slice none 0 0, .slice none 0 0]) ?_ 1 _ rfl; (with_reducible repeat (first | refine blk_drewN ?_ _ | refine blk_drew ?_ | refine blk_alloc ?_ _)); refine blk_put (cs := #[.int .i64 0, .int .i64 0, .int .i64 0, .slice none 0 0, .slice none 0 0]) ?_ 0 _ rfl; (with_reducible repeat (first | refine blk_drewN ?_ _ | refine blk_drew ?_ | refine blk_alloc ?_ _)); exact BK481.out) Try.underlying30 rfl (by kernel_rfl)) rfl ?_
    exact ⟨_, _, _, by first | rfl | (simp [errW_none, errW_some] <;> rfl) | (simp [*, errW_none, errW_some] <;> rfl), by first | exact Kd.R_nil _ _ _ _ _ | exact Kd.N_nil _ _ _ _ _ | exact Kd.V_nil _ _ _ _ _ | exact Kd.Q_nil _ _ _ _ _ | exact Kd.S_nil _ _ _ _ _, by first | exact Kd.R_nil _ _ _ _ _ | exact Kd.N_nil _ _ _ _ _ | exact Kd.V_nil _ _ _ _ _ | exact Kd.Q_nil _ _ _ _ _ | exact Kd.S_nil _ _ _ _ _, by first | exact Kd.R_nil _ _ _ _ _ | exact Kd.N_nil _ _ _ _ _ | exact Kd.V_nil _ _ _ _ _ | exact Kd.Q_nil _ _ _ _ _ | exact Kd.S_nil _ _ _ _ _, pB HB⟩
   ·rw [if_neg c7] at H
    have c7b0 : decide (a1 < a0_0) = false := decide_eq_false c7
    clear c7
    replace H := Option.bind_eq_some_iff.mp H
    obtain ⟨⟨t484, t485, t486, t487, t490, t493⟩, A150, H⟩ := H
    replace H : (some (t484, t485, t486, t487, t490, t493, 0)) = some (r1, r2, r3, r4, r5, r6, r7) := H
    have A15 := Aside0.mk A150
    clear A150
    simp only [Option.some.injEq, Prod.mk.injEq] at H
    obtain ⟨rfl, rfl, rfl, rfl, rfl, rfl, rfl⟩ := H
    go_enter Try.func27, Try.ntmps27
    go_wp2_with (first | ((with_reducible refine gate_dst (N := 2) rfl ?_); refine boxE (N := 2) #[.int .i64 a0_0, .int .i64 a0_1, .int .i64 a0_2, .slice A0_3 l0_3.length c0_3, .slice A0_4 l0_4.length c0_4] 30 ?_; intro gb480 hg w16 hbox hb; have BK480 := Aside0.mk (hbox); have GW480 := gS HB hg; have GE480 := gS HB hg; replace HB := Aside0.mk (below_step (pB HB) hb); clear hb hbox hg) | ((with_reducible refine gate_dst (N := 4) rfl ?_); refine boxE (N := 4) #[.int .i64 0, .int .i64 0, .int .i64 0, .slice none 0 0, .slice none 0 0] 30 ?_; intro gb481 hg w17 hbox hb; have BK481 := Aside0.mk (hbox); have GW481 := gS HB hg; have GE481 := gS HB hg; have NB480_481 := nL BK480 hg; have NB481_480 := nG BK480 hg; replace BK480 := bB BK480 hb; replace HB := Aside0.mk (below_step (pB HB) hb); clear hb hbox hg; have hnb18 := NB480_481.out; have hnc18 := NB481_480.out; obtain ⟨hcz19_0, hcz19_1, hcz19_2, hcz19_3, hcz19_4⟩ := cells5 BK480; obtain ⟨hfz19_0, hfz19_1, hfz19_2, hfz19_3, hfz19_4⟩ := frz5 BK480) | ((with_reducible refine gate_callee (f := 24) rfl ?_); refine goesL_ (some 11) rfl rfl Try.func24 (by kernel_rfl) rfl #[.agg #[.int .i64 a0_0, .int .i64 a0_1, .int .i64 a0_2, .slice A0_3 l0_3.length c0_3, .slice A0_4 l0_4.length c0_4]] rfl (by (try simp only [List.map_toArray, List.map_cons, List.map_nil]); first | done | rfl | (simp only [List.length_drop, List.length_take]; rfl)) ?_; (with_reducible refine (insolvencyref33_CheckDocket.calls k a0_0 a0_1 a0_2 _ _ l0_3 _ _ l0_4 t482 _ ?side1 ?side2 ?side3 ?side4 A3.out).mono ?_); (case side1 => exact cB HR0_3 HB); (case side2 => exact HC0_3.out); (case side3 => exact cB HR0_4 HB); (case side4 => exact HC0_4.out); rintro e w20 ⟨rfl, hb⟩; refine ⟨_, rfl, ?_⟩; replace BK480 := bB BK480 hb; replace BK481 := bB BK481 hb; replace HB := Aside0.mk (below_step (pB HB) hb); (try clear hb)) | ((with_reducible refine gate_callee (f := 44) rfl ?_); refine goesL_ (some 17) rfl rfl Try.func44 (by kernel_rfl) rfl #[.int .i64 a1] rfl (by (try simp only [List.map_toArray, List.map_cons, List.map_nil]); first | done | rfl | (simp only [List.length_drop, List.length_take]; rfl)) ?_; (with_reducible refine (insolvencyref33_day.calls a1 true _ A5.out).mono ?_); rintro e w' ⟨rfl, ⟨nd, rfl⟩⟩; refine ⟨_, rfl, ?_⟩; (try (rw [drewN_self w20]; generalize hq_ : World.drewN w20 _ = w20; have n0_ : Aside0 (w20.heap[gb480]? = some (.cells #[.int .i64 a0_0, .int .i64 a0_1, .int .i64 a0_2, .slice A0_3 l0_3.length c0_3, .slice A0_4 l0_4.length c0_4] 30 (0, 0))) := ⟨by rw [← hq_]; exact (by (with_reducible repeat (first | refine blk_drewN ?_ _ | refine blk_drew ?_ | refine blk_alloc ?_ _)); exact BK480.out)⟩; have n1_ : Aside0 (w20.heap[gb481]? = some (.cells #[.int .i64 0, .int .i64 0, .int .i64 0, .slice none 0 0, .slice none 0 0] 30 (0, 0))) := ⟨by rw [← hq_]; exact (by (with_reducible repeat (first | refine blk_drewN ?_ _ | refine blk_drew ?_ | refine blk_alloc ?_ _)); exact BK481.out)⟩; have n2_ : Aside0 (Below w.heap.size w w20) := ⟨by rw [← hq_]; exact (pB HB)⟩; clear BK480 BK481 HB hq_; have BK480 := n0_; have BK481 := n1_; have HB := n2_; clear n0_ n1_ n2_)); obtain ⟨hcz21_0, hcz21_1, hcz21_2, hcz21_3, hcz21_4⟩ := cells5 BK480; obtain ⟨hfz21_0, hfz21_1, hfz21_2, hfz21_3, hfz21_4⟩ := frz5 BK480) | ((with_reducible refine gate_callee (f := 45) rfl ?_); refine goesL_ (some 28) rfl rfl Try.func45 (by kernel_rfl) rfl #[.agg #[.int .i64 a0_0, .int .i64 a0_1, .int .i64 a0_2, .slice A0_3 l0_3.length c0_3, .slice A0_4 l0_4.length c0_4], .int .i64 a1] rfl (by (try simp only [List.map_toArray, List.map_cons, List.map_nil]); first | done | rfl | (simp only [List.length_drop, List.length_take]; rfl)) ?_; (with_reducible refine (insolvencyref33_lapsed.calls k a0_0 a0_1 a0_2 _ _ l0_3 _ _ l0_4 a1 t484 t485 t486 t487 t490 t493 _ ?side1 ?side2 ?side3 ?side4 A15.out).mono ?_); (case side1 => exact cB HR0_3 HB); (case side2 => exact HC0_3.out); (case side3 => exact cB HR0_4 HB); (case side4 => exact HC0_4.out); rintro e w22 ⟨v488, v491, v494, rfl, ho0, ho1, ho2, hb⟩; refine ⟨_, rfl, ?_⟩; have HO489 := Aside0.mk (Kd.R_lower ho0 (below_size (pB HB))); have HO492 := Aside0.mk (Kd.R_lower ho1 (below_size (pB HB))); have HO495 := Aside0.mk (Kd.R_lower ho2 (below_size (pB HB))); replace BK480 := bB BK480 hb; replace BK481 := bB BK481 hb; replace HB := Aside0.mk (below_step (pB HB) hb); (try clear hb); (try clear ho0); (try clear ho1); (try clear ho2)) | ((with_reducible refine gate_dst (N := 8) rfl ?_); refine boxE (N := 8) #[.int .i64 0, .int .i64 0, .int .i64 0, .slice none 0 0, .slice none 0 0] 30 ?_; intro gb496 hg w23 hbox hb; have BK496 := Aside0.mk (hbox); have GW496 := gS HB hg; have GE496 := gS HB hg; have NB480_496 := nL BK480 hg; have NB496_480 := nG BK480 hg; have NB481_496 := nL BK481 hg; have NB496_481 := nG BK481 hg; replace HO489 := rB HO489 hb; replace HO492 := rB HO492 hb; replace HO495 := rB HO495 hb; replace BK480 := bB BK480 hb; replace BK481 := bB BK481 hb; replace HB := Aside0.mk (below_step (pB HB) hb); clear hb hbox hg; have hnb24 := NB496_480.out; have hnc24 := NB480_496.out; have hnb25 := NB496_481.out; have hnc25 := NB481_496.out; obtain ⟨hcz26_0, hcz26_1, hcz26_2, hcz26_3, hcz26_4⟩ := cells5 BK496; obtain ⟨hfz26_0, hfz26_1, hfz26_2, hfz26_3, hfz26_4⟩ := frz5 BK496; obtain ⟨Ao27, co27, eo27⟩ := Kd.R_slice HO489.out; subst eo27; obtain ⟨Ao28, co28, eo28⟩ := Kd.R_slice HO492.out; subst eo28; obtain ⟨hcz29_0, hcz29_1, hcz29_2, hcz29_3, hcz29_4⟩ := cells5 BK481; obtain ⟨hfz29_0, hfz29_1, hfz29_2, hfz29_3, hfz29_4⟩ := frz5 BK481))
    refine bodyPost_ret (results_ctt rfl _ _ gb481 30 #[.int .i64 t484, .int .i64 t485, .int .i64 t486, .slice Ao27 t487.length co27, .slice Ao28 t490.length co28] (0, 0) _ rfl (by (with_reducible repeat (first | refine blk_drewN ?_ _ | refine blk_drew ?_ | refine blk_alloc ?_ _)); refine blk_put (cs := #[.int .i64 t484, .int .i64 t485, .int .i64 t486, .slice Ao27 t487.length co27, .slice none 0 0]) ?_ 4 _ rfl; (with_reducible repeat (first | refine blk_drewN ?_ _ | refine blk_drew ?_ | refine blk_alloc ?_ _)); refine blk_put (cs := #[.int .i64 t484, .int .i64 t485, .int .i64 t486, .slice none 0 0, .slice none 0 0]) ?_ 3 _ rfl; (with_reducible repeat (first | refine blk_drewN ?_ _ | refine blk_drew ?_ | refine blk_alloc ?_ _)); refine blk_put (cs := #[.int .i64 t484, .int .i64 t485, .int .i64 0, .slice none 0 0, .slice none 0 0]) ?_ 2 _ rfl; (with_reducible repeat (first | refine blk_drewN ?_ _ | refine blk_drew ?_ | refine blk_alloc ?_ _)); refine blk_put (cs := #[.int .i64 t484, .int .i64 0, .int .i64 0, .slice none 0 0, .slice none 0 0]) ?_ 1 _ rfl; (with_reducible repeat (first | refine blk_drewN ?_ _ | refine blk_drew ?_ | refine blk_alloc ?_ _)); refine blk_put (cs := #[.int .i64 0, .int .i64 0, .int .i64 0, .slice none 0 0, .slice none 0 0]) ?_ 0 _ rfl; (with_reducible repeat (first | refine blk_drewN ?_ _ | refine blk_drew ?_ | refine blk_alloc ?_ _)); refine blk_far ?_ NB481_496.out _; (with_reducible repeat (first | refine blk_drewN ?_ _ | refine blk_drew ?_ | refine blk_alloc ?_ _)); refine blk_far ?_ NB481_496.out _; (with_reducible repeat (first | refine blk_drewN ?_ _ | refine blk_drew ?_ | refine blk_alloc ?_ _)); refine blk_far ?_ NB481_496.out _; (with_reducible repeat (first | refine blk_drewN ?_ _ | refine blk_drew ?_ | refine blk_alloc ?_ _)); refine blk_far ?_ NB481_496.out _; (with_reducible repeat (first | refine blk_drewN ?_ _ | refine blk_drew ?_ | refine blk_alloc ?_ _)); refine blk_far ?_ NB481_496.out _; (with_reducible repeat (first | refine blk_drewN ?_ _ | refine blk_drew ?_ | refine blk_alloc ?_ _)); exact BK481.out) Try.underlying30 rfl (by kernel_rfl)) rfl ?_
    exact ⟨_, _, _, by first | rfl | (simp [errW_none, errW_some] <;> rfl) | (simp [*, errW_none, errW_some] <;> rfl), by (with_reducible repeat (first | apply Kd.R_alloc | apply Kd.R_drewN | apply Kd.R_drew)); exact Kd.R_mono (Kd.R_far (p := ⟨gb481, 4, none⟩) (Kd.R_far (p := ⟨gb481, 3, none⟩) (Kd.R_far (p := ⟨gb481, 2, none⟩) (Kd.R_far (p := ⟨gb481, 1, none⟩) (Kd.R_far (p := ⟨gb481, 0, none⟩) (Kd.R_far (p := ⟨gb496, 4, none⟩) (Kd.R_far (p := ⟨gb496, 3, none⟩) (Kd.R_far (p := ⟨gb496, 2, none⟩) (Kd.R_far (p := ⟨gb496, 1, none⟩) (Kd.R_far (p := ⟨gb496, 0, none⟩) (Kd.R_types (Kd.R_types HO489.out BK496.out (by decide)) BK481.out (by decide)) (fun _ hk => hk.1.2) (.int .i64 t484)) (fun _ hk => hk.1.2) (.int .i64 t485)) (fun _ hk => hk.1.2) (.int .i64 t486)) (fun _ hk => hk.1.2) (.slice Ao27 t487.length co27)) (fun _ hk => hk.1.2) (.slice Ao28 t490.length co28)) (fun _ hk => hk.2) (.int .i64 t484)) (fun _ hk => hk.2) (.int .i64 t485)) (fun _ hk => hk.2) (.int .i64 t486)) (fun _ hk => hk.2) (.slice Ao27 t487.length co27)) (fun _ hk => hk.2) (.slice Ao28 t490.length co28)) (fun _ hk => trivial), by (with_reducible repeat (first | apply Kd.R_alloc | apply Kd.R_drewN | apply Kd.R_drew)); exact Kd.R_mono (Kd.R_far (p := ⟨gb481, 4, none⟩) (Kd.R_far (p := ⟨gb481, 3, none⟩) (Kd.R_far (p := ⟨gb481, 2, none⟩) (Kd.R_far (p := ⟨gb481, 1, none⟩) (Kd.R_far (p := ⟨gb481, 0, none⟩) (Kd.R_far (p := ⟨gb496, 4, none⟩) (Kd.R_far (p := ⟨gb496, 3, none⟩) (Kd.R_far (p := ⟨gb496, 2, none⟩) (Kd.R_far (p := ⟨gb496, 1, none⟩) (Kd.R_far (p := ⟨gb496, 0, none⟩) (Kd.R_types (Kd.R_types HO492.out BK496.out (by decide)) BK481.out (by decide)) (fun _ hk => hk.1.2) (.int .i64 t484)) (fun _ hk => hk.1.2) (.int .i64 t485)) (fun _ hk => hk.1.2) (.int .i64 t486)) (fun _ hk => hk.1.2) (.slice Ao27 t487.length co27)) (fun _ hk => hk.1.2) (.slice Ao28 t490.length co28)) (fun _ hk => hk.2) (.int .i64 t484)) (fun _ hk => hk.2) (.int .i64 t485)) (fun _ hk => hk.2) (.int .i64 t486)) (fun _ hk => hk.2) (.slice Ao27 t487.length co27)) (fun _ hk => hk.2) (.slice Ao28 t490.length co28)) (fun _ hk => trivial), by (with_reducible repeat (first | apply Kd.R_alloc | apply Kd.R_drewN | apply Kd.R_drew)); exact Kd.R_mono (Kd.R_far (p := ⟨gb481, 4, none⟩) (Kd.R_far (p := ⟨gb481, 3, none⟩) (Kd.R_far (p := ⟨gb481, 2, none⟩) (Kd.R_far (p := ⟨gb481, 1, none⟩) (Kd.R_far (p := ⟨gb481, 0, none⟩) (Kd.R_far (p := ⟨gb496, 4, none⟩) (Kd.R_far (p := ⟨gb496, 3, none⟩) (Kd.R_far (p := ⟨gb496, 2, none⟩) (Kd.R_far (p := ⟨gb496, 1, none⟩) (Kd.R_far (p := ⟨gb496, 0, none⟩) (Kd.R_types (Kd.R_types HO495.out BK496.out (by decide)) BK481.out (by decide)) (fun _ hk => hk.1.2) (.int .i64 t484)) (fun _ hk => hk.1.2) (.int .i64 t485)) (fun _ hk => hk.1.2) (.int .i64 t486)) (fun _ hk => hk.1.2) (.slice Ao27 t487.length co27)) (fun _ hk => hk.1.2) (.slice Ao28 t490.length co28)) (fun _ hk => hk.2) (.int .i64 t484)) (fun _ hk => hk.2) (.int .i64 t485)) (fun _ hk => hk.2) (.int .i64 t486)) (fun _ hk => hk.2) (.slice Ao27 t487.length co27)) (fun _ hk => hk.2) (.slice Ao28 t490.length co28)) (fun _ hk => trivial), pB HB⟩
  ·replace c6 := Bool.eq_false_iff.mpr c6
   subst c6
   have H1 : (some (0, 0, 0, ([] : List Int), ([] : List (S50)), ([] : List (S52)), 1)) = some (r1, r2, r3, r4, r5, r6, r7) := by rw [if_neg (show ¬ (false = true) by decide)] at H; exact H
   clear H
   have H := H1
   clear H1
   simp only [Option.some.injEq, Prod.mk.injEq] at H
   obtain ⟨rfl, rfl, rfl, rfl, rfl, rfl, rfl⟩ := H
   go_enter Try.func27, Try.ntmps27
   go_wp2_with (first | ((with_reducible refine gate_dst (N := 2) rfl ?_); refine boxE (N := 2) #[.int .i64 a0_0, .int .i64 a0_1, .int .i64 a0_2, .slice A0_3 l0_3.length c0_3, .slice A0_4 l0_4.length c0_4] 30 ?_; intro gb480 hg w30 hbox hb; have BK480 := Aside0.mk (hbox); have GW480 := gS HB hg; have GE480 := gS HB hg; replace HB := Aside0.mk (below_step (pB HB) hb); clear hb hbox hg) | ((with_reducible refine gate_dst (N := 4) rfl ?_); refine boxE (N := 4) #[.int .i64 0, .int .i64 0, .int .i64 0, .slice none 0 0, .slice none 0 0] 30 ?_; intro gb481 hg w31 hbox hb; have BK481 := Aside0.mk (hbox); have GW481 := gS HB hg; have GE481 := gS HB hg; have NB480_481 := nL BK480 hg; have NB481_480 := nG BK480 hg; replace BK480 := bB BK480 hb; replace HB := Aside0.mk (below_step (pB HB) hb); clear hb hbox hg; have hnb32 := NB480_481.out; have hnc32 := NB481_480.out; obtain ⟨hcz33_0, hcz33_1, hcz33_2, hcz33_3, hcz33_4⟩ := cells5 BK480; obtain ⟨hfz33_0, hfz33_1, hfz33_2, hfz33_3, hfz33_4⟩ := frz5 BK480) | ((with_reducible refine gate_callee (f := 24) rfl ?_); refine goesL_ (some 11) rfl rfl Try.func24 (by kernel_rfl) rfl #[.agg #[.int .i64 a0_0, .int .i64 a0_1, .int .i64 a0_2, .slice A0_3 l0_3.length c0_3, .slice A0_4 l0_4.length c0_4]] rfl (by (try simp only [List.map_toArray, List.map_cons, List.map_nil]); first | done | rfl | (simp only [List.length_drop, List.length_take]; rfl)) ?_; (with_reducible refine (insolvencyref33_CheckDocket.calls k a0_0 a0_1 a0_2 _ _ l0_3 _ _ l0_4 t482 _ ?side1 ?side2 ?side3 ?side4 A3.out).mono ?_); (case side1 => exact cB HR0_3 HB); (case side2 => exact HC0_3.out); (case side3 => exact cB HR0_4 HB); (case side4 => exact HC0_4.out); rintro e w34 ⟨rfl, hb⟩; refine ⟨_, rfl, ?_⟩; replace BK480 := bB BK480 hb; replace BK481 := bB BK481 hb; replace HB := Aside0.mk (below_step (pB HB) hb); (try clear hb)) | ((with_reducible refine gate_callee (f := 44) rfl ?_); refine goesL_ (some 17) rfl rfl Try.func44 (by kernel_rfl) rfl #[.int .i64 a1] rfl (by (try simp only [List.map_toArray, List.map_cons, List.map_nil]); first | done | rfl | (simp only [List.length_drop, List.length_take]; rfl)) ?_; (with_reducible refine (insolvencyref33_day.calls a1 false _ A5.out).mono ?_); rintro e w' ⟨rfl, ⟨nd, rfl⟩⟩; refine ⟨_, rfl, ?_⟩; (try (rw [drewN_self w34]; generalize hq_ : World.drewN w34 _ = w34; have n0_ : Aside0 (w34.heap[gb480]? = some (.cells #[.int .i64 a0_0, .int .i64 a0_1, .int .i64 a0_2, .slice A0_3 l0_3.length c0_3, .slice A0_4 l0_4.length c0_4] 30 (0, 0))) := ⟨by rw [← hq_]; exact (by (with_reducible repeat (first | refine blk_drewN ?_ _ | refine blk_drew ?_ | refine blk_alloc ?_ _)); exact BK480.out)⟩; have n1_ : Aside0 (w34.heap[gb481]? = some (.cells #[.int .i64 0, .int .i64 0, .int .i64 0, .slice none 0 0, .slice none 0 0] 30 (0, 0))) := ⟨by rw [← hq_]; exact (by (with_reducible repeat (first | refine blk_drewN ?_ _ | refine blk_drew ?_ | refine blk_alloc ?_ _)); exact BK481.out)⟩; have n2_ : Aside0 (Below w.heap.size w w34) := ⟨by rw [← hq_]; exact (pB HB)⟩; clear BK480 BK481 HB hq_; have BK480 := n0_; have BK481 := n1_; have HB := n2_; clear n0_ n1_ n2_)); obtain ⟨hcz35_0, hcz35_1, hcz35_2, hcz35_3, hcz35_4⟩ := cells5 BK481; obtain ⟨hfz35_0, hfz35_1, hfz35_2, hfz35_3, hfz35_4⟩ := frz5 BK481))
   refine bodyPost_ret (results_ctt rfl _ _ gb481 30 #[.int .i64 0, .int .i64 0, .int .i64 0, .slice none 0 0, .slice none 0 0] (0, 0) _ rfl (by (with_reducible repeat (first | refine blk_drewN ?_ _ | refine blk_drew ?_ | refine blk_alloc ?_ _)); refine blk_put (cs := #[.int .i64 0, .int .i64 0, .int .i64 0, .slice none 0 0, .slice none 0 0]) ?_ 4 _ rfl; (with_reducible repeat (first | refine blk_drewN ?_ _ | refine blk_drew ?_ | refine blk_alloc ?_ _)); refine blk_put (cs := #[.int .i64 0, .int .i64 0, .int .i64 0, .slice none 0 0, .slice none 0 0]) ?_ 3 _ rfl; (with_reducible repeat (first | refine blk_drewN ?_ _ | refine blk_drew ?_ | refine blk_alloc ?_ _)); refine blk_put (cs := #[.int .i64 0, .int .i64 0, .int .i64 0, .slice none 0 0, .slice none 0 0]) ?_ 2 _ rfl; (with_reducible repeat (first | refine blk_drewN ?_ _ | refine blk_drew ?_ | refine blk_alloc ?_ _)); refine blk_put (cs := #[.int .i64 0, .int .i64 0, .int .i64 0, .slice none 0 0, .slice none 0 0]) ?_ 1 _ rfl; (with_reducible repeat (first | refine blk_drewN ?_ _ | refine blk_drew ?_ | refine blk_alloc ?_ _)); refine blk_put (cs := #[.int .i64 0, .int .i64 0, .int .i64 0, .slice none 0 0, .slice none 0 0]) ?_ 0 _ rfl; (with_reducible repeat (first | refine blk_drewN ?_ _ | refine blk_drew ?_ | refine blk_alloc ?_ _)); exact BK481.out) Try.underlying30 rfl (by kernel_rfl)) rfl ?_
   exact ⟨_, _, _, by first | rfl | (simp [errW_none, errW_some] <;> rfl) | (simp [*, errW_none, errW_some] <;> rfl), by first | exact Kd.R_nil _ _ _ _ _ | exact Kd.N_nil _ _ _ _ _ | exact Kd.V_nil _ _ _ _ _ | exact Kd.Q_nil _ _ _ _ _ | exact Kd.S_nil _ _ _ _ _, by first | exact Kd.R_nil _ _ _ _ _ | exact Kd.N_nil _ _ _ _ _ | exact Kd.V_nil _ _ _ _ _ | exact Kd.Q_nil _ _ _ _ _ | exact Kd.S_nil _ _ _ _ _, by first | exact Kd.R_nil _ _ _ _ _ | exact Kd.N_nil _ _ _ _ _ | exact Kd.V_nil _ _ _ _ _ | exact Kd.Q_nil _ _ _ _ _ | exact Kd.S_nil _ _ _ _ _, pB HB⟩
 ·rw [if_neg c4] at H
  have c4b0 : (t482 == 0) = false := beq_eq_false_iff_ne.mpr c4
  have c4b1 : (t482 != 0) = true := bne_iff_ne.mpr c4
  simp only [Option.some.injEq, Prod.mk.injEq] at H
  obtain ⟨rfl, rfl, rfl, rfl, rfl, rfl, rfl⟩ := H
  go_enter Try.func27, Try.ntmps27
  go_wp2_with (first | ((with_reducible refine gate_dst (N := 2) rfl ?_); refine boxE (N := 2) #[.int .i64 a0_0, .int .i64 a0_1, .int .i64 a0_2, .slice A0_3 l0_3.length c0_3, .slice A0_4 l0_4.length c0_4] 30 ?_; intro gb480 hg w36 hbox hb; have BK480 := Aside0.mk (hbox); have GW480 := gS HB hg; have GE480 := gS HB hg; replace HB := Aside0.mk (below_step (pB HB) hb); clear hb hbox hg) | ((with_reducible refine gate_dst (N := 4) rfl ?_); refine boxE (N := 4) #[.int .i64 0, .int .i64 0, .int .i64 0, .slice none 0 0, .slice none 0 0] 30 ?_; intro gb481 hg w37 hbox hb; have BK481 := Aside0.mk (hbox); have GW481 := gS HB hg; have GE481 := gS HB hg; have NB480_481 := nL BK480 hg; have NB481_480 := nG BK480 hg; replace BK480 := bB BK480 hb; replace HB := Aside0.mk (below_step (pB HB) hb); clear hb hbox hg; have hnb38 := NB480_481.out; have hnc38 := NB481_480.out; obtain ⟨hcz39_0, hcz39_1, hcz39_2, hcz39_3, hcz39_4⟩ := cells5 BK480; obtain ⟨hfz39_0, hfz39_1, hfz39_2, hfz39_3, hfz39_4⟩ := frz5 BK480) | ((with_reducible refine gate_callee (f := 24) rfl ?_); refine goesL_ (some 11) rfl rfl Try.func24 (by kernel_rfl) rfl #[.agg #[.int .i64 a0_0, .int .i64 a0_1, .int .i64 a0_2, .slice A0_3 l0_3.length c0_3, .slice A0_4 l0_4.length c0_4]] rfl (by (try simp only [List.map_toArray, List.map_cons, List.map_nil]); first | done | rfl | (simp only [List.length_drop, List.length_take]; rfl)) ?_; (with_reducible refine (insolvencyref33_CheckDocket.calls k a0_0 a0_1 a0_2 _ _ l0_3 _ _ l0_4 t482 _ ?side1 ?side2 ?side3 ?side4 A3.out).mono ?_); (case side1 => exact cB HR0_3 HB); (case side2 => exact HC0_3.out); (case side3 => exact cB HR0_4 HB); (case side4 => exact HC0_4.out); rintro e w40 ⟨rfl, hb⟩; refine ⟨_, rfl, ?_⟩; replace BK480 := bB BK480 hb; replace BK481 := bB BK481 hb; replace HB := Aside0.mk (below_step (pB HB) hb); (try clear hb); obtain ⟨hcz41_0, hcz41_1, hcz41_2, hcz41_3, hcz41_4⟩ := cells5 BK481; obtain ⟨hfz41_0, hfz41_1, hfz41_2, hfz41_3, hfz41_4⟩ := frz5 BK481))
  refine bodyPost_ret (results_ctt rfl _ _ gb481 30 #[.int .i64 0, .int .i64 0, .int .i64 0, .slice none 0 0, .slice none 0 0] (0, 0) _ rfl (by (with_reducible repeat (first | refine blk_drewN ?_ _ | refine blk_drew ?_ | refine blk_alloc ?_ _)); refine blk_put (cs := #[.int .i64 0, .int .i64 0, .int .i64 0, .slice none 0 0, .slice none 0 0]) ?_ 4 _ rfl; (with_reducible repeat (first | refine blk_drewN ?_ _ | refine blk_drew ?_ | refine blk_alloc ?_ _)); refine blk_put (cs := #[.int .i64 0, .int .i64 0, .int .i64 0, .slice none 0 0, .slice none 0 0]) ?_ 3 _ rfl; (with_reducible repeat (first | refine blk_drewN ?_ _ | refine blk_drew ?_ | refine blk_alloc ?_ _)); refine blk_put (cs := #[.int .i64 0, .int .i64 0, .int .i64 0, .slice none 0 0, .slice none 0 0]) ?_ 2 _ rfl; (with_reducible repeat (first | refine blk_drewN ?_ _ | refine blk_drew ?_ | refine blk_alloc ?_ _)); refine blk_put (cs := #[.int .i64 0, .int .i64 0, .int .i64 0, .slice none 0 0, .slice none 0 0]) ?_ 1 _ rfl; (with_reducible repeat (first | refine blk_drewN ?_ _ | refine blk_drew ?_ | refine blk_alloc ?_ _)); refine blk_put (cs := #[.int .i64 0, .int .i64 0, .int .i64 0, .slice none 0 0, .slice none 0 0]) ?_ 0 _ rfl; (with_reducible repeat (first | refine blk_drewN ?_ _ | refine blk_drew ?_ | refine blk_alloc ?_ _)); exact BK481.out) Try.underlying30 rfl (by kernel_rfl)) rfl ?_
  exact ⟨_, _, _, by first | rfl | (simp [errW_none, errW_some] <;> rfl) | (simp [*, errW_none, errW_some] <;> rfl), by first | exact Kd.R_nil _ _ _ _ _ | exact Kd.N_nil _ _ _ _ _ | exact Kd.V_nil _ _ _ _ _ | exact Kd.Q_nil _ _ _ _ _ | exact Kd.S_nil _ _ _ _ _, by first | exact Kd.R_nil _ _ _ _ _ | exact Kd.N_nil _ _ _ _ _ | exact Kd.V_nil _ _ _ _ _ | exact Kd.Q_nil _ _ _ _ _ | exact Kd.S_nil _ _ _ _ _, by first | exact Kd.R_nil _ _ _ _ _ | exact Kd.N_nil _ _ _ _ _ | exact Kd.V_nil _ _ _ _ _ | exact Kd.Q_nil _ _ _ _ _ | exact Kd.S_nil _ _ _ _ _, pB HB⟩

end Go.Proofs.Ytpfiecjacpbhkaa.D

/- What the Go functions named below come to, each told as_ a Lean function ('.f'), with the proof ('.calls'): no condition beyond those that each theorem states. Written by a program of this session's over the translation. -/
namespace Go.Proofs.Ytpfiecjacpbhkaa.F
open Go.RowKit Go.Proofs.YtpfiecjacpbhkaaW.PrintWords Go.Proofs.YtpfiecjacpbhkaaW.PrintLast Go.Proofs.YtpfiecjacpbhkaaW.PrintMore
attribute [local go_sem] max2_int min2_int max_two min_two max_three min_three max_four min_four   -- for this text's walks alone
set_option linter.unusedVariables false
set_option linter.unusedSimpArgs false

/-! ### insolvencyref1_AddDays: function 61 -/
mutual
def insolvencyref1_AddDays.j0 : Nat → Int → Int → List Int → Bool → Option (Int × Int)
  | 0, _, _, _, _ => none
  | k + 1, x0, x1, x2, x22 => if x22 = true then (some (0, 1)) else (if x1 > 0 then (insolvencyref1_AddDays.j1 k x1 x2 (wrap64 (x0 + 1))) else (insolvencyref1_AddDays.j1 k x1 x2 x0))
def insolvencyref1_AddDays.j1 : Nat → Int → List Int → Int → Option (Int × Int)
  | 0, _, _, _ => none
  | k + 1, x1, x2, x8 => insolvencyref1_AddDays.l0 k x1 x2 x8
def insolvencyref1_AddDays.l0 : Nat → Int → List Int → Int → Option (Int × Int)
  | 0, _, _, _ => none
  | k + 1, x1, x2, x8 => if x8 ≤ 1048576 then ((insolvencyref1_IsBusiness.f k x8 x2).bind fun t126 => (if t126 = true then (if x1 ≤ 1 then (some (x8, 0)) else (insolvencyref1_AddDays.l0 k (wrap64 (x1 - 1)) x2 (wrap64 (x8 + 1)))) else (insolvencyref1_AddDays.l0 k x1 x2 (wrap64 (x8 + 1))))) else (some (0, 1))
end
def insolvencyref1_AddDays.f (k : Nat) (a0 : Int) (a1 : Int) (l2 : List Int) : Option (Int × Int) := if (l2.length : Int) > 1000 then (some (0, 2)) else ((insolvencyref1_IsDay.f a0).bind fun t125 => (if t125 = true then (if a1 < 0 then (insolvencyref1_AddDays.j0 k a0 a1 l2 true) else (insolvencyref1_AddDays.j0 k a0 a1 l2 (decide (a1 > 1048576)))) else (insolvencyref1_AddDays.j0 k a0 a1 l2 true)))
theorem insolvencyref1_AddDays.mono_l : ∀ k, (∀ y0 y1 y2 y3, LeO (insolvencyref1_AddDays.j0 k y0 y1 y2 y3) (insolvencyref1_AddDays.j0 (k + 1) y0 y1 y2 y3)) ∧ (∀ y0 y1 y2, LeO (insolvencyref1_AddDays.j1 k y0 y1 y2) (insolvencyref1_AddDays.j1 (k + 1) y0 y1 y2)) ∧ (∀ y0 y1 y2, LeO (insolvencyref1_AddDays.l0 k y0 y1 y2) (insolvencyref1_AddDays.l0 (k + 1) y0 y1 y2))
  | 0 => ⟨fun _ _ _ _ r h => by simp [insolvencyref1_AddDays.j0] at h, fun _ _ _ r h => by simp [insolvencyref1_AddDays.j1] at h, fun _ _ _ r h => by simp [insolvencyref1_AddDays.l0] at h⟩
  | k + 1 => by
    obtain ⟨ih0, ih1, ih2⟩ := insolvencyref1_AddDays.mono_l k
    refine ⟨?_, ?_, ?_⟩
    · intro y0 y1 y2 y3
      unfold insolvencyref1_AddDays.j0
      repeat' first
      | (with_reducible exact ih0 _ _ _ _)
      | (with_reducible exact ih1 _ _ _)
      | (with_reducible exact ih2 _ _ _)
      | (with_reducible exact insolvencyref1_IsBusiness.mono _ _ _)
      | (with_reducible exact LeO.refl _)
      | (with_reducible exact LeO.none _)
      | (with_reducible refine LeO.ite ?_ ?_)
      | (with_reducible refine LeO.bind ?_ (fun _ => ?_))
      | exact ih0 _ _ _ _
      | exact ih1 _ _ _
      | exact ih2 _ _ _
      | exact insolvencyref1_IsBusiness.mono _ _ _
      | exact LeO.none _
      | refine LeO.ite ?_ ?_
      | refine LeO.bind ?_ (fun _ => ?_)
    · intro y0 y1 y2
      unfold insolvencyref1_AddDays.j1
      repeat' first
      | (with_reducible exact ih0 _ _ _ _)
      | (with_reducible exact ih1 _ _ _)
      | (with_reducible exact ih2 _ _ _)
      | (with_reducible exact insolvencyref1_IsBusiness.mono _ _ _)
      | (with_reducible exact LeO.refl _)
      | (with_reducible exact LeO.none _)
      | (with_reducible refine LeO.ite ?_ ?_)
      | (with_reducible refine LeO.bind ?_ (fun _ => ?_))
      | exact ih0 _ _ _ _
      | exact ih1 _ _ _
      | exact ih2 _ _ _
      | exact insolvencyref1_IsBusiness.mono _ _ _
      | exact LeO.none _
      | refine LeO.ite ?_ ?_
      | refine LeO.bind ?_ (fun _ => ?_)
    · intro y0 y1 y2
      unfold insolvencyref1_AddDays.l0
      repeat' first
      | (with_reducible exact ih0 _ _ _ _)
      | (with_reducible exact ih1 _ _ _)
      | (with_reducible exact ih2 _ _ _)
      | (with_reducible exact insolvencyref1_IsBusiness.mono _ _ _)
      | (with_reducible exact LeO.refl _)
      | (with_reducible exact LeO.none _)
      | (with_reducible refine LeO.ite ?_ ?_)
      | (with_reducible refine LeO.bind ?_ (fun _ => ?_))
      | exact ih0 _ _ _ _
      | exact ih1 _ _ _
      | exact ih2 _ _ _
      | exact insolvencyref1_IsBusiness.mono _ _ _
      | exact LeO.none _
      | refine LeO.ite ?_ ?_
      | refine LeO.bind ?_ (fun _ => ?_)
theorem insolvencyref1_AddDays.mono : ∀ a0 a1 a2 k, LeO (insolvencyref1_AddDays.f k a0 a1 a2) (insolvencyref1_AddDays.f (k + 1) a0 a1 a2) := by
  intro a0 a1 a2 k
  obtain ⟨ih0, ih1, ih2⟩ := insolvencyref1_AddDays.mono_l k
  unfold insolvencyref1_AddDays.f
  repeat' first
      | (with_reducible exact ih0 _ _ _ _)
      | (with_reducible exact ih1 _ _ _)
      | (with_reducible exact ih2 _ _ _)
      | (with_reducible exact insolvencyref1_IsBusiness.mono _ _ _)
      | (with_reducible exact LeO.refl _)
      | (with_reducible exact LeO.none _)
      | (with_reducible refine LeO.ite ?_ ?_)
      | (with_reducible refine LeO.bind ?_ (fun _ => ?_))
      | exact ih0 _ _ _ _
      | exact ih1 _ _ _
      | exact ih2 _ _ _
      | exact insolvencyref1_IsBusiness.mono _ _ _
      | exact LeO.none _
      | refine LeO.ite ?_ ?_
      | refine LeO.bind ?_ (fun _ => ?_)
set_option maxHeartbeats 8000000 in
set_option maxRecDepth 100000 in
theorem insolvencyref1_AddDays.calls (k : Nat) (a0 : Int) (a1 : Int) (A2 : Option Addr) (c2 : Nat) (l2 : List Int) (r1 : Int) (r2 : Int) (w : World) (hr2 : Kd.C (Kd.int .i64) w A2 l2.length l2) (hc2 : l2.length ≤ c2) (h : insolvencyref1_AddDays.f k a0 a1 l2 = some (r1, r2)) :
    Calls Try.prog 61 #[.int .i64 a0, .int .i64 a1, .slice A2 l2.length c2] w fun e w' => e = .returned (.tuple #[.int .i64 r1, .int .i64 r2]) ∧ Drawn0 w w' := by
  have HR2 := Aside0.mk hr2
  have HC2 := Aside0.mk hc2
  clear hr2 hc2
  have H : (if (l2.length : Int) > 1000 then (some (0, 2)) else ((insolvencyref1_IsDay.f a0).bind fun t125 => (if t125 = true then (if a1 < 0 then (insolvencyref1_AddDays.j0 k a0 a1 l2 true) else (insolvencyref1_AddDays.j0 k a0 a1 l2 (decide (a1 > 1048576)))) else (insolvencyref1_AddDays.j0 k a0 a1 l2 true)))) = some (r1, r2) := h
  clear h
  by_cases c4 : (l2.length : Int) > 1000
  · rw [if_pos c4] at H
    have c4b0 : decide (1000 < (l2.length : Int)) = true := decide_eq_true c4
    have c4b1 : decide (1000 < l2.length) = true := decide_eq_true (by omega)
    clear c4
    simp only [Option.some.injEq, Prod.mk.injEq] at H
    obtain ⟨rfl, rfl⟩ := H
    go_enter Try.func61, Try.ntmps61
    go_wp2
    go_ret2
    exact ⟨by first | rfl | (simp; done) | (simp [*]; done), by repeat (first | exact Drawn0.refl _ | apply Drawn0.step)⟩
  · rw [if_neg c4] at H
    have c4b0 : decide (1000 < (l2.length : Int)) = false := decide_eq_false c4
    have c4b1 : decide (1000 < l2.length) = false := decide_eq_false (by omega)
    clear c4
    have HC5 := Aside0.mk H
    clear H
    go_enter Try.func61, Try.ntmps61
    go_upto_region 3 with (fail)
    go_cut [22] (fun v22 wc => ∃ (kq : Nat) (x22_4 : Bool), v22 = .bool x22_4 ∧ Aside0 (insolvencyref1_AddDays.j0 kq a0 a1 l2 x22_4 = some (r1, r2)) ∧ Aside0 (kq ≤ k) ∧ Drawn0 w wc)
    case first =>
      have H := HC5.out
      clear HC5
      replace H := Option.bind_eq_some_iff.mp H
      obtain ⟨t125, A60, H⟩ := H
      replace H : (if t125 = true then (if a1 < 0 then (insolvencyref1_AddDays.j0 k a0 a1 l2 true) else (insolvencyref1_AddDays.j0 k a0 a1 l2 (decide (a1 > 1048576)))) else (insolvencyref1_AddDays.j0 k a0 a1 l2 true)) = some (r1, r2) := H
      have A6 := Aside0.mk A60
      clear A60
      by_cases c7 : t125 = true
      · subst c7
        have H1 : (if a1 < 0 then (insolvencyref1_AddDays.j0 k a0 a1 l2 true) else (insolvencyref1_AddDays.j0 k a0 a1 l2 (decide (a1 > 1048576)))) = some (r1, r2) := by rw [if_pos rfl] at H; exact H
        clear H
        have H := H1
        clear H1
        by_cases c8 : a1 < 0
        · rw [if_pos c8] at H
          have c8b0 : decide (a1 < 0) = true := decide_eq_true c8
          clear c8
          (first | rw [c8b0] | (simp only [i64_w, i32_w]; rw [c8b0]) | skip)
          have H' := Aside0.mk H
          clear H
          go_wp2_with (first | ((with_reducible refine gate_callee (f := 69) rfl ?_); refine goesL_ (some 13) rfl rfl Try.func69 (by kernel_rfl) rfl #[.int .i64 a0] rfl (by (try simp only [List.map_toArray, List.map_cons, List.map_nil]); first | done | rfl | (simp only [List.length_drop, List.length_take]; rfl)) ?_; (with_reducible refine (insolvencyref1_IsDay.calls a0 true _ A6.out).mono ?_); rintro e w' ⟨rfl, ⟨nd, rfl⟩⟩; refine ⟨_, rfl, ?_⟩))
          go_meet
          case rel => exact ⟨_, (true), (by first | rfl | (simp; done) | (simp [*]; done)), H', ⟨by first | omega | exact Nat.le_refl _⟩, by repeat (first | exact Drawn0.refl _ | apply Drawn0.step)⟩
        · rw [if_neg c8] at H
          have c8b0 : decide (a1 < 0) = false := decide_eq_false c8
          clear c8
          (first | rw [c8b0] | (simp only [i64_w, i32_w]; rw [c8b0]) | skip)
          have H' := Aside0.mk H
          clear H
          go_wp2_with (first | ((with_reducible refine gate_callee (f := 69) rfl ?_); refine goesL_ (some 13) rfl rfl Try.func69 (by kernel_rfl) rfl #[.int .i64 a0] rfl (by (try simp only [List.map_toArray, List.map_cons, List.map_nil]); first | done | rfl | (simp only [List.length_drop, List.length_take]; rfl)) ?_; (with_reducible refine (insolvencyref1_IsDay.calls a0 true _ A6.out).mono ?_); rintro e w' ⟨rfl, ⟨nd, rfl⟩⟩; refine ⟨_, rfl, ?_⟩))
          go_meet
          case rel => exact ⟨_, (decide (a1 > 1048576)), (by first | rfl | (simp; done) | (simp [*]; done)), H', ⟨by first | omega | exact Nat.le_refl _⟩, by repeat (first | exact Drawn0.refl _ | apply Drawn0.step)⟩
      · replace c7 := Bool.eq_false_iff.mpr c7
        subst c7
        have H1 : (insolvencyref1_AddDays.j0 k a0 a1 l2 true) = some (r1, r2) := by rw [if_neg (show ¬ (false = true) by decide)] at H; exact H
        clear H
        have H := H1
        clear H1
        have H' := Aside0.mk H
        clear H
        go_wp2_with (first | ((with_reducible refine gate_callee (f := 69) rfl ?_); refine goesL_ (some 13) rfl rfl Try.func69 (by kernel_rfl) rfl #[.int .i64 a0] rfl (by (try simp only [List.map_toArray, List.map_cons, List.map_nil]); first | done | rfl | (simp only [List.length_drop, List.length_take]; rfl)) ?_; (with_reducible refine (insolvencyref1_IsDay.calls a0 false _ A6.out).mono ?_); rintro e w' ⟨rfl, ⟨nd, rfl⟩⟩; refine ⟨_, rfl, ?_⟩))
        go_meet
        case rel => exact ⟨_, (true), (by first | rfl | (simp; done) | (simp [*]; done)), H', ⟨by first | omega | exact Nat.le_refl _⟩, by repeat (first | exact Drawn0.refl _ | apply Drawn0.step)⟩
    case rest =>
      clear HC5
      try clear c2
      try clear p2
      try clear c4
      try clear c4b0
      try clear c4b1
      try clear c6
      try clear c7
      try clear c8
      try clear c8b0
      obtain ⟨kq, x22_4, rfl, HA, HJ4, ⟨mc4, rfl⟩⟩ := hcut
      cases kq with
      | zero => exact absurd HA.out (by simp [insolvencyref1_AddDays.j0])
      | succ kj4 =>
        have H := HA.out
        clear HA
        simp only [insolvencyref1_AddDays.j0] at H
        by_cases c9 : x22_4 = true
        · subst c9
          have H1 : (some (0, 1)) = some (r1, r2) := by rw [if_pos rfl] at H; exact H
          clear H
          have H := H1
          clear H1
          simp only [Option.some.injEq, Prod.mk.injEq] at H
          obtain ⟨rfl, rfl⟩ := H
          go_wp2
          go_ret2
          exact ⟨by first | rfl | (simp; done) | (simp [*]; done), by repeat (first | exact Drawn0.refl _ | apply Drawn0.step)⟩
        · replace c9 := Bool.eq_false_iff.mpr c9
          subst c9
          have H1 : (if a1 > 0 then (insolvencyref1_AddDays.j1 kj4 a1 l2 (wrap64 (a0 + 1))) else (insolvencyref1_AddDays.j1 kj4 a1 l2 a0)) = some (r1, r2) := by rw [if_neg (show ¬ (false = true) by decide)] at H; exact H
          clear H
          have H := H1
          clear H1
          have HC10 := Aside0.mk H
          clear H
          go_upto_if 25 with (fail)
          go_cut [8] (fun v8 wc => ∃ (kq : Nat) (x8_9 : Int), v8 = .int .i64 x8_9 ∧ Aside0 (insolvencyref1_AddDays.j1 kq a1 l2 x8_9 = some (r1, r2)) ∧ Aside0 (kq ≤ kj4) ∧ Drawn0 w wc)
          case first =>
            have H := HC10.out
            clear HC10
            by_cases c11 : a1 > 0
            · rw [if_pos c11] at H
              have c11b0 : decide (0 < a1) = true := decide_eq_true c11
              clear c11
              (first | rw [c11b0] | (simp only [i64_w, i32_w]; rw [c11b0]) | skip)
              have H' := Aside0.mk H
              clear H
              go_wp2
              go_meet
              case rel => exact ⟨_, (wrap64 (a0 + 1)), (by first | rfl | (simp; done) | (simp [*]; done)), H', ⟨by have := HJ4.out; first | omega | exact Nat.le_refl _⟩, by repeat (first | exact Drawn0.refl _ | apply Drawn0.step)⟩
            · rw [if_neg c11] at H
              have c11b0 : decide (0 < a1) = false := decide_eq_false c11
              clear c11
              (first | rw [c11b0] | (simp only [i64_w, i32_w]; rw [c11b0]) | skip)
              have H' := Aside0.mk H
              clear H
              go_wp2
              go_meet
              case rel => exact ⟨_, (a0), (by first | rfl | (simp; done) | (simp [*]; done)), H', ⟨by have := HJ4.out; first | omega | exact Nat.le_refl _⟩, by repeat (first | exact Drawn0.refl _ | apply Drawn0.step)⟩
          case rest =>
            clear HC10
            try clear c1
            try clear c2
            try clear p2
            try clear c4
            try clear c4b0
            try clear c4b1
            try clear c6
            try clear p6
            try clear c7
            try clear c8
            try clear c8b0
            try clear c9
            try clear c11
            try clear c11b0
            try clear p2
            obtain ⟨kq, x8_9, rfl, HA, HJ9, ⟨mc9, rfl⟩⟩ := hcut
            cases kq with
            | zero => exact absurd HA.out (by simp [insolvencyref1_AddDays.j1])
            | succ kj9 =>
              have H := HA.out
              clear HA
              simp only [insolvencyref1_AddDays.j1] at H
              have H' := Aside0.mk H
              clear H
              go_wp2
              go_loopg [1, 8] kj9 (fun kq v1 v8 w' => ∃ (x1_3 : Int) (x8_3 : Int), v1 = .int .i64 x1_3 ∧ v8 = .int .i64 x8_3 ∧ Aside0 (insolvencyref1_AddDays.l0 kq x1_3 l2 x8_3 = some (r1, r2)) ∧ Aside0 (kq ≤ kj9) ∧ Drawn0 w w')
              case atStart => exact ⟨(a1), (x8_9), (by first | rfl | (simp; done) | (simp [*]; done)), (by first | rfl | (simp; done) | (simp [*]; done)), H', ⟨Nat.le_refl _⟩, by repeat (first | exact Drawn0.refl _ | apply Drawn0.step)⟩
              case round =>
                clear H'
                try clear c1
                try clear c2
                try clear p2
                try clear c4
                try clear c4b0
                try clear c4b1
                try clear c6
                try clear p6
                try clear c7
                try clear c8
                try clear c8b0
                try clear c9
                try clear c11
                try clear c11b0
                try clear p2
                try clear p6
                obtain ⟨x1_3, x8_3, rfl, rfl, HA, HK3, ⟨m3, rfl⟩⟩ := hrel
                cases gk with
                | zero => exact absurd HA.out (by simp [insolvencyref1_AddDays.l0])
                | succ k3 =>
                  have H := HA.out
                  clear HA
                  simp only [insolvencyref1_AddDays.l0] at H
                  by_cases c12 : x8_3 ≤ 1048576
                  · rw [if_pos c12] at H
                    have c12b0 : decide (x8_3 ≤ 1048576) = true := decide_eq_true c12
                    clear c12
                    replace H := Option.bind_eq_some_iff.mp H
                    obtain ⟨t126, A130, H⟩ := H
                    replace H : (if t126 = true then (if x1_3 ≤ 1 then (some (x8_3, 0)) else (insolvencyref1_AddDays.l0 k3 (wrap64 (x1_3 - 1)) l2 (wrap64 (x8_3 + 1)))) else (insolvencyref1_AddDays.l0 k3 x1_3 l2 (wrap64 (x8_3 + 1)))) = some (r1, r2) := H
                    have A13 := Aside0.mk A130
                    clear A130
                    by_cases c14 : t126 = true
                    · subst c14
                      have H1 : (if x1_3 ≤ 1 then (some (x8_3, 0)) else (insolvencyref1_AddDays.l0 k3 (wrap64 (x1_3 - 1)) l2 (wrap64 (x8_3 + 1)))) = some (r1, r2) := by rw [if_pos rfl] at H; exact H
                      clear H
                      have H := H1
                      clear H1
                      by_cases c15 : x1_3 ≤ 1
                      · rw [if_pos c15] at H
                        have c15b0 : decide (x1_3 ≤ 1) = true := decide_eq_true c15
                        clear c15
                        simp only [Option.some.injEq, Prod.mk.injEq] at H
                        obtain ⟨rfl, rfl⟩ := H
                        go_wp2_with (first | ((with_reducible refine gate_callee (f := 70) rfl ?_); refine goesL_ (some 34) rfl rfl Try.func70 (by kernel_rfl) rfl #[.int .i64 x8_3, .slice A2 l2.length c2] rfl (by (try simp only [List.map_toArray, List.map_cons, List.map_nil]); first | done | rfl | (simp only [List.length_drop, List.length_take]; rfl)) ?_; (with_reducible refine (insolvencyref1_IsBusiness.calls k3 x8_3 _ _ l2 true _ ?side1 ?side2 A13.out).mono ?_); (case side1 => repeat (first | exact HR2.out | (with_reducible refine Kd.C_alloc ?_ _) | (with_reducible refine Kd.C_drewN ?_ _) | (with_reducible refine Kd.C_drew ?_))); (case side2 => exact HC2.out); rintro e w' ⟨rfl, ⟨nd, rfl⟩⟩; refine ⟨_, rfl, ?_⟩))
                        go_ret2
                        exact ⟨by first | rfl | (simp; done) | (simp [*]; done), by repeat (first | exact Drawn0.refl _ | apply Drawn0.step)⟩
                      · rw [if_neg c15] at H
                        have c15b0 : decide (x1_3 ≤ 1) = false := decide_eq_false c15
                        clear c15
                        have H' := Aside0.mk H
                        clear H
                        go_wp2_with (first | ((with_reducible refine gate_callee (f := 70) rfl ?_); refine goesL_ (some 34) rfl rfl Try.func70 (by kernel_rfl) rfl #[.int .i64 x8_3, .slice A2 l2.length c2] rfl (by (try simp only [List.map_toArray, List.map_cons, List.map_nil]); first | done | rfl | (simp only [List.length_drop, List.length_take]; rfl)) ?_; (with_reducible refine (insolvencyref1_IsBusiness.calls k3 x8_3 _ _ l2 true _ ?side1 ?side2 A13.out).mono ?_); (case side1 => repeat (first | exact HR2.out | (with_reducible refine Kd.C_alloc ?_ _) | (with_reducible refine Kd.C_drewN ?_ _) | (with_reducible refine Kd.C_drew ?_))); (case side2 => exact HC2.out); rintro e w' ⟨rfl, ⟨nd, rfl⟩⟩; refine ⟨_, rfl, ?_⟩))
                        go_roundg k3
                        case measure => have := HJ4.out; have := HJ9.out; have := HK3.out; omega
                        case rel => exact ⟨(wrap64 (x1_3 - 1)), (wrap64 (x8_3 + 1)), (by first | rfl | (simp; done) | (simp [*]; done)), (by first | rfl | (simp; done) | (simp [*]; done)), H', ⟨by have := HJ4.out; have := HJ9.out; have := HK3.out; omega⟩, by repeat (first | exact Drawn0.refl _ | apply Drawn0.step)⟩
                    · replace c14 := Bool.eq_false_iff.mpr c14
                      subst c14
                      have H1 : (insolvencyref1_AddDays.l0 k3 x1_3 l2 (wrap64 (x8_3 + 1))) = some (r1, r2) := by rw [if_neg (show ¬ (false = true) by decide)] at H; exact H
                      clear H
                      have H := H1
                      clear H1
                      have H' := Aside0.mk H
                      clear H
                      go_wp2_with (first | ((with_reducible refine gate_callee (f := 70) rfl ?_); refine goesL_ (some 34) rfl rfl Try.func70 (by kernel_rfl) rfl #[.int .i64 x8_3, .slice A2 l2.length c2] rfl (by (try simp only [List.map_toArray, List.map_cons, List.map_nil]); first | done | rfl | (simp only [List.length_drop, List.length_take]; rfl)) ?_; (with_reducible refine (insolvencyref1_IsBusiness.calls k3 x8_3 _ _ l2 false _ ?side1 ?side2 A13.out).mono ?_); (case side1 => repeat (first | exact HR2.out | (with_reducible refine Kd.C_alloc ?_ _) | (with_reducible refine Kd.C_drewN ?_ _) | (with_reducible refine Kd.C_drew ?_))); (case side2 => exact HC2.out); rintro e w' ⟨rfl, ⟨nd, rfl⟩⟩; refine ⟨_, rfl, ?_⟩))
                      go_roundg k3
                      case measure => have := HJ4.out; have := HJ9.out; have := HK3.out; omega
                      case rel => exact ⟨(x1_3), (wrap64 (x8_3 + 1)), (by first | rfl | (simp; done) | (simp [*]; done)), (by first | rfl | (simp; done) | (simp [*]; done)), H', ⟨by have := HJ4.out; have := HJ9.out; have := HK3.out; omega⟩, by repeat (first | exact Drawn0.refl _ | apply Drawn0.step)⟩
                  · rw [if_neg c12] at H
                    have c12b0 : decide (x8_3 ≤ 1048576) = false := decide_eq_false c12
                    clear c12
                    simp only [Option.some.injEq, Prod.mk.injEq] at H
                    obtain ⟨rfl, rfl⟩ := H
                    go_wp2
                    go_ret2
                    exact ⟨by first | rfl | (simp; done) | (simp [*]; done), by repeat (first | exact Drawn0.refl _ | apply Drawn0.step)⟩

end Go.Proofs.Ytpfiecjacpbhkaa.F

/- insolvencyref33.matterOf, required, opened and change: by their contracts in the words of docket's own. -/
namespace Go.Proofs.Ytpfiecjacpbhkaa.D
open Go.RowKit Go.Proofs.YtpfiecjacpbhkaaW.PrintWords Go.Proofs.YtpfiecjacpbhkaaW.PrintLast Go.Proofs.YtpfiecjacpbhkaaW.PrintMore
set_option linter.unusedVariables false
set_option linter.unusedSimpArgs false

set_option maxHeartbeats 8000000 in
set_option maxRecDepth 100000 in
theorem matterOf_calls (d a p : Int) (v : Value) (A : Option Addr) (c : Nat) (l : List S50) (x : Int) (w : World) (hlen : l.length < 4611686018427387904) (hr : Kd.C k50 w A l.length l) :
    Calls Try.prog 47 #[.agg #[.int .i64 d, .int .i64 a, .int .i64 p, v, .slice A l.length c], .int .i64 x] w fun e w' => e = .returned (.int .i64 (fnd x l 0)) ∧ Below w.heap.size w w' := by
  have hu := Try.underlying30
  have hu2 := Try.underlying50
  have HR := Aside0.mk hr
  obtain ⟨r, hr⟩ : ∃ r, fnd x l 0 = r := ⟨_, rfl⟩
  rw [hr]
  have R0 := Aside0.mk hr
  clear hr
  have B0 : Below w.heap.size w (w.alloc (.cells #[.int .i64 d, .int .i64 a, .int .i64 p, v, .slice A l.length c] 30 (0, 0))) := below_alloc (Below.refl _ _) _
  have K0 := blk_new w (.cells #[.int .i64 d, .int .i64 a, .int .i64 p, v, .slice A l.length c] 30 (0, 0))
  go_enter Try.func47, Try.ntmps47
  go_wp2_with (fail)
  generalize w.alloc (.cells #[.int .i64 d, .int .i64 a, .int .i64 p, v, .slice A l.length c] 30 (0, 0)) = W0 at *
  have HB0 := Aside0.mk B0
  have HK0 := Aside0.mk K0
  clear B0 K0
  go_loopg [5] (l.length) (fun kx s5 wr => ∃ (j : Nat), s5 = .int .i64 j ∧ j ≤ l.length ∧ l.length - j ≤ kx ∧ Aside0 (fnd x (l.drop j) j = r) ∧ Aside0 (Below w.heap.size w wr) ∧ Aside0 (wr.heap[w.heap.size]? = some (.cells #[.int .i64 d, .int .i64 a, .int .i64 p, v, .slice A l.length c] 30 (0, 0))))
  case atStart => exact ⟨0, rfl, Nat.zero_le _, by omega, ⟨by simpa using R0.out⟩, HB0, HK0⟩
  case round =>
    obtain ⟨j, rfl, hj, hk, I, HB, HK⟩ := hrel
    clear HB0 HK0 R0
    have o4 : wr.cell? ⟨w.heap.size, 4, none⟩ = some (.slice A l.length c) := (blk_cell HK.out 4).trans rfl
    by_cases hlt : j < l.length
    · obtain ⟨k1, rfl⟩ : ∃ m, gk = m + 1 := ⟨gk - 1, by omega⟩
      have hd : decide ((j : Int) < (l.length : Int)) = true := decide_eq_true (by omega)
      have p0 : 0 ≤ (j : Int) := Int.natCast_nonneg j
      have q0 : (j : Int) < (l.length : Int) := by omega
      have er : rd_T50 l (j : Int) = l[j] := by
        unfold rd_T50
        rw [Int.toNat_natCast, List.getD_eq_getElem?_getD, List.getElem?_eq_getElem hlt]
        rfl
      have I2 := I.out
      rw [List.drop_eq_getElem_cons hlt, fnd] at I2
      clear I
      obtain ⟨ad, ea, h0, h1, h2, h3, h4⟩ := at_T50 HR.out (j : Int) p0 q0
      cases ea
      rw [er, Int.toNat_natCast] at h0
      replace h0 := (HB.out.cell (World.block_lt_of_cell? w _ h0)).trans h0
      have HW := Aside0.mk (show wrap64 ((j : Int) + 1) = ((j + 1 : Nat) : Int) by unfold wrap64; omega)
      generalize l[j] = y at *
      have p1 := eq_true p0
      have q1 := eq_true q0
      clear p0 q0 h1 h2 h3 h4
      by_cases hy : y.f0 = x
      · rw [if_pos hy] at I2
        have hb0 : (y.f0 == x) = true := by simpa using hy
        subst I2
        clear hy
        go_wp2
        go_ret
        exact ⟨rfl, HB.out⟩
      · rw [if_neg hy] at I2
        have hb0 : (y.f0 == x) = false := by simpa using hy
        have I3 := Aside0.mk I2
        clear I2 hy
        go_wp2
        go_roundg k1
        case measure => omega
        case rel => exact ⟨j + 1, by first | (rw [HW.out]; done) | (simp only [HW.out]; done) | go_num, by omega, by omega, I3, HB, HK⟩
    · have ej : j = l.length := by omega
      subst ej
      have I2 := I.out
      rw [List.drop_length, fnd] at I2
      subst I2
      have hd : decide ((l.length : Int) < (l.length : Int)) = false := decide_eq_false (by omega)
      go_wp2
      go_ret
      exact ⟨rfl, HB.out⟩

set_option maxHeartbeats 8000000 in
set_option maxRecDepth 100000 in
theorem required_calls (kind : Int) (w : World) (hk : 2 ≤ kind ∧ kind ≤ 6) : Calls Try.prog 48 #[.int .i64 kind] w fun e w' => e = .returned (.int .i64 (kind - 1)) ∧ Below w.heap.size w w' := by
  have B0 : Below w.heap.size w (w.alloc (.cells #[.int .i64 0, .int .i64 0, .int .i64 1, .int .i64 2, .int .i64 3, .int .i64 4, .int .i64 5] 3 (0, 0))) := below_alloc (Below.refl _ _) _
  have hu := Try.underlying25
  have hkk : kind = 2 ∨ kind = 3 ∨ kind = 4 ∨ kind = 5 ∨ kind = 6 := by omega
  rcases hkk with rfl | rfl | rfl | rfl | rfl
  all_goals go_enter Try.func48, Try.ntmps48
  all_goals go_wp2
  all_goals go_ret
  all_goals exact ⟨rfl, B0⟩

set_option maxHeartbeats 8000000 in
set_option maxRecDepth 100000 in
theorem opened_err (g : Nat) (d a p : Int) (hv : Value) (A : Option Addr) (c : Nat) (l : List S50) (id : Int) (w : World) (hlen : l.length ≤ c) (hl2 : l.length < 4611686018427387904)
    (hb : w.heap[g]? = some (.cells #[.int .i64 d, .int .i64 a, .int .i64 p, hv, .slice A l.length c] 30 (0, 0))) (hr : Kd.C k50 w A l.length l) (he : (openF l id).2 ≠ 0) :
    Calls Try.prog 46 #[.pointer (some ⟨g, 0, none⟩), .int .i64 id] w fun e w' => e = .returned (.int .i64 (openF l id).2) ∧ Below w.heap.size w w' := by
  have hu := Try.underlying30
  obtain ⟨o0, o1, o2, o3, hc4⟩ := cells5 ⟨hb⟩
  have HR := Aside0.mk hr
  clear hr
  unfold openF at he ⊢
  by_cases h1 : id < 0
  · rw [if_pos h1]
    have hd : decide (id < 0) = true := decide_eq_true h1
    go_enter Try.func46, Try.ntmps46
    go_wp2
    go_ret
    exact ⟨rfl, Below.refl _ _⟩
  · rw [if_neg h1] at he ⊢
    have hd : decide (id < 0) = false := decide_eq_false h1
    have hf := matterOf_calls d a p hv A c l id w hl2 HR.out
    generalize fnd id l 0 = q at *
    by_cases h2 : 0 ≤ q
    · rw [if_pos h2]
      have hd2 : decide (0 ≤ q) = true := decide_eq_true h2
      go_enter Try.func46, Try.ntmps46
      go_wp2_with (go_at_call 47; refine hf.mono ?_; rintro e w' ⟨rfl, hbl⟩)
      go_ret
      exact ⟨rfl, hbl⟩
    · rw [if_neg h2] at he ⊢
      have hd2 : decide (0 ≤ q) = false := decide_eq_false h2
      by_cases h3 : (l.length : Int) ≥ 32
      · rw [if_pos h3]
        have hd3 : decide ((32 : Int) ≤ (l.length : Int)) = true := decide_eq_true h3
        go_enter Try.func46, Try.ntmps46
        go_wp2_with (go_at_call 47; refine hf.mono ?_; rintro e w' ⟨rfl, hbl⟩; have hc5 := pw_cell_below hbl hc4)
        go_ret
        exact ⟨rfl, hbl⟩
      · rw [if_neg h3] at he
        exact absurd rfl he

set_option maxHeartbeats 8000000 in
set_option maxRecDepth 100000 in
theorem opened_ok (g : Nat) (d a p : Int) (hv u : Value) (l : List S50) (id : Int) (w0 w : World) (hB : Below w0.heap.size w0 w) (hg : w0.heap.size ≤ g)
    (hb : w.heap[g]? = some (.cells #[.int .i64 d, .int .i64 a, .int .i64 p, hv, u] 30 (0, 0))) (ho : Kd.R k50 50 w w0.heap.size (fun _ => True) u l) (he : (openF l id).2 = 0) :
    Calls Try.prog 46 #[.pointer (some ⟨g, 0, none⟩), .int .i64 id] w fun e w' => ∃ u', e = .returned (.int .i64 0) ∧ w'.heap[g]? = some (.cells #[.int .i64 d, .int .i64 a, .int .i64 p, hv, u'] 30 (0, 0)) ∧
      Kd.R k50 50 w' w0.heap.size (fun _ => True) u' (openF l id).1 ∧ Below w0.heap.size w0 w' ∧ (∀ k, k < w.heap.size → k ≠ g → some k ≠ u.ownBlock → w'.heap[k]? = w.heap[k]?) := by
  have hu := Try.underlying30
  have hu2 := Try.underlying50
  have hu3 := Try.underlying28
  obtain ⟨A, c, rfl⟩ := Kd.R_slice ho
  have hC := (Kd.R_reads' ho).2
  obtain ⟨o0, o1, o2, o3, hc4⟩ := cells5 ⟨hb⟩
  unfold openF at he ⊢
  by_cases h1 : id < 0
  · rw [if_pos h1] at he; cases he
  rw [if_neg h1] at he ⊢
  by_cases h2 : 0 ≤ fnd id l 0
  · rw [if_pos h2] at he; cases he
  rw [if_neg h2] at he ⊢
  by_cases h3 : (l.length : Int) ≥ 32
  · rw [if_pos h3] at he; cases he
  rw [if_neg h3] at he ⊢
  clear he
  have hf := matterOf_calls d a p hv A c l id w (by omega) hC.2
  have hd : decide (id < 0) = false := decide_eq_false h1
  have hd2 : decide (0 ≤ fnd id l 0) = false := decide_eq_false h2
  have hd3 : decide ((32 : Int) ≤ (l.length : Int)) = false := decide_eq_false h3
  generalize fnd id l 0 = q at *
  have HO := Aside0.mk ho
  have HL : l.length < 32 := by omega
  have BK := Aside0.mk hb
  have HBB := Aside0.mk hB
  clear ho hC hb hB h1 h2 h3
  go_enter Try.func46, Try.ntmps46
  go_wp2_with (first | (go_at_call 47; refine hf.mono ?_; rintro e w1 ⟨rfl, hbl⟩; have hc5 := pw_cell_below hbl hc4; have HO1 := Aside0.mk (Kd.R_below HO.out hbl); have BK1 := Aside0.mk (blk_below BK.out hbl); have HB1 := Aside0.mk (below_then HBB.out HBB.out.size hbl)) | ((with_reducible refine gate_builtin (b := .append) (xs := #[.tmp 23, .tmp 26]) rfl ?_); at_builtin; refine Kd.R_append k50 (w0 := w0) w0.heap.size rfl (.tmp 23) (.tmp 26) 28 50 (.agg #[(.int .i64 0), (.int .i64 0), (.int .i64 0), (.int .i64 0), (.bool false)]) 40 rfl Try.underlying28 info50 rfl (by decide) (by omega) _ l (⟨id, 1, 0, 0, false⟩ : S50) [.int .i64 id, .int .i64 1, .int .i64 0, .int .i64 0, .bool false] (fun _ => True) (fun _ => False) rfl rfl ?aP (fun _ hk => hk.elim) ?aF ?aO ?aB ?aS ?aL ?_; (case aP => exact k50_mkM _ _ _ (⟨id, 1, 0, 0, false⟩ : S50)); (case aB => exact HB1.out); (case aF => exact (fun _ _ => trivial)); (case aO => exact HO1.out); (case aS => exact HB1.out.size); (case aL => omega); intro v2 w2 ho2 hb2 hgr hat; obtain ⟨A2, c2, rfl⟩ := Kd.R_slice ho2; have hne : some g ≠ (Value.slice A l.length c).ownBlock := Kd.R_ne HO1.out BK1.out (by decide); have BK2 := blk_grown BK1.out hgr hne; have hz4 := (blk_cell BK2 4).trans rfl; have hy4 := blk_frozen BK2 4))
  go_ret
  simp only [List.length_append, List.length_cons, List.length_nil, Nat.zero_add] at ho2
  refine ⟨_, rfl, blk_put BK2 4 _ rfl, Kd.R_mono (Kd.R_far (p := ⟨g, 4, none⟩) (Kd.R_types ho2 BK2 (by decide)) (fun _ hk => hk.2) _) (fun _ _ => trivial), hb2.setCell hg _, fun k hk hkg hku => ?_⟩
  rw [Below.heap_setCell w2 ⟨g, 4, none⟩ _ k hkg, hgr.block k (Nat.lt_of_lt_of_le hk hbl.size) hku]
  exact hbl.block k hk

/-! ### change -/
def RAddAt (w : World) (day n : Int) (v : Value) (ad : Int × Int) : Prop :=
  ∀ w1, Below w.heap.size w w1 → Calls Try.prog 61 #[.int .i64 day, .int .i64 n, v] w1 fun e w2 => e = .returned (.tuple #[.int .i64 ad.1, .int .i64 ad.2]) ∧ Below w1.heap.size w1 w2
theorem option_some (o : Int) (w : World) : Calls Try.prog 59 #[.int .i64 o] w fun e w' => e = .returned (.bool (decide (0 ≤ o ∧ o < 4))) ∧ Below w.heap.size w w' := by
  refine (insolvencyref33_option.calls o (decide (0 ≤ o ∧ o < 4)) w ?_).mono (fun e w' ⟨h1, h2⟩ => ⟨h1, h2.below⟩)
  unfold insolvencyref33_option.f
  by_cases h : o ≥ 0
  · rw [if_pos h]
    by_cases h2 : o < 4
    · simp [h2, h]
    · simp [h2]
  · rw [if_neg h]
    simp; omega

set_option maxHeartbeats 8000000 in
set_option maxRecDepth 100000 in
theorem rchange_opt (b o gO : Nat) (kind day id opt : Int) (w : World) (hk : kind = 4 ∨ kind = 6) (ho : ¬ (0 ≤ opt ∧ opt < 4)) :
    Calls Try.prog 49 #[.pointer (some ⟨gO, 0, none⟩), .pointer (some ⟨b, o, none⟩), .agg #[.int .i64 kind, .int .i64 day, .int .i64 id, .int .i64 opt]] w fun e w' => e = .returned (.int .i64 41) ∧ Below w.heap.size w w' := by
  have hu := Try.underlying47
  have B1 : Below w.heap.size w (w.alloc (.cells #[.int .i64 kind, .int .i64 day, .int .i64 id, .int .i64 opt] 47 (0, 0))) := below_alloc (Below.refl _ _) _
  have hop := fun w' => option_some opt w'
  rw [decide_eq_false ho] at hop
  rcases hk with rfl | rfl
  all_goals go_enter Try.func49, Try.ntmps49
  all_goals go_wp2_with (go_at_call 59; refine (hop _).mono ?_; rintro e w2 ⟨rfl, hb⟩)
  all_goals go_ret
  all_goals exact ⟨rfl, below_step B1 hb⟩

set_option maxHeartbeats 8000000 in
set_option maxRecDepth 100000 in
theorem rchange_add (b o gO : Nat) (kind day id opt d ans app : Int) (v u : Value) (ad : Int × Int) (w : World) (hk : kind = 2 ∨ kind = 4 ∧ 0 ≤ opt ∧ opt < 4)
    (hO : w.heap[gO]? = some (.cells #[.int .i64 d, .int .i64 ans, .int .i64 app, v, u] 30 (0, 0))) (ha : RAddAt w day (if kind = 2 then ans else app) v ad) (he : ad.2 ≠ 0) :
    Calls Try.prog 49 #[.pointer (some ⟨gO, 0, none⟩), .pointer (some ⟨b, o, none⟩), .agg #[.int .i64 kind, .int .i64 day, .int .i64 id, .int .i64 opt]] w fun e w' => e = .returned (.int .i64 ad.2) ∧ Below w.heap.size w w' := by
  have hu := Try.underlying47
  have hu2 := Try.underlying27
  have hu3 := Try.underlying30
  have B1 : Below w.heap.size w (w.alloc (.cells #[.int .i64 kind, .int .i64 day, .int .i64 id, .int .i64 opt] 47 (0, 0))) := below_alloc (Below.refl _ _) _
  have K1 := blk_new w (.cells #[.int .i64 kind, .int .i64 day, .int .i64 id, .int .i64 opt] 47 (0, 0))
  have he2 : (ad.2 != 0) = true := by simpa using he
  obtain ⟨a1, a2⟩ := ad
  have KO := blk_below hO B1
  obtain ⟨f0, f1, f2, f3⟩ := cells4 ⟨K1⟩
  obtain ⟨o0, o1, o2, o3, o4⟩ := cells5 ⟨KO⟩
  rcases hk with rfl | ⟨rfl, hk0, hk1⟩
  · rw [if_pos rfl] at ha
    go_enter Try.func49, Try.ntmps49
    go_upto_region 9 with (fail)
    generalize w.alloc (.cells #[.int .i64 2, .int .i64 day, .int .i64 id, .int .i64 opt] 47 (0, 0)) = W1 at *
    have hA := ha W1.drew (below_drew1 B1)
    have B2 := below_drew1 B1
    clear ha he hO
    go_region_held3 (fun w_ => w_.cell? ⟨w.heap.size, 1, none⟩ = some (.int .i64 day) ∧ w_.cell? ⟨gO, 3, none⟩ = some v) (first | exact ⟨f1, o3⟩ | exact ⟨f1', o3'⟩ | go_keep) (first | (go_at_call 61; refine hA.mono ?_; rintro e w2 ⟨rfl, hb⟩; have f1' := pw_cell_below hb (show W1.drew.cell? _ = _ from f1); have o3' := pw_cell_below hb (show W1.drew.cell? _ = _ from o3)))
    go_wp2
    go_ret
    exact ⟨rfl, below_step B2 hb⟩
  · rw [if_neg (by decide)] at ha
    have hop := option_some opt (w.alloc (.cells #[.int .i64 4, .int .i64 day, .int .i64 id, .int .i64 opt] 47 (0, 0)))
    rw [decide_eq_true (⟨hk0, hk1⟩ : 0 ≤ opt ∧ opt < 4)] at hop
    go_enter Try.func49, Try.ntmps49
    go_upto_region 9 with (go_at_call 59; refine hop.mono ?_; rintro e w2 ⟨rfl, hb⟩; have f0' := pw_cell_below hb f0; have f1' := pw_cell_below hb f1; have f3' := pw_cell_below hb f3; have o1' := pw_cell_below hb o1; have o2' := pw_cell_below hb o2; have o3' := pw_cell_below hb o3)
    have B2 := below_step B1 hb
    have hA := ha w2.drew (below_drew1 B2)
    have B3 := below_drew1 B2
    clear ha he hO hop
    go_region_held3 (fun w_ => w_.cell? ⟨w.heap.size, 1, none⟩ = some (.int .i64 day) ∧ w_.cell? ⟨gO, 3, none⟩ = some v) (first | exact ⟨f1', o3'⟩ | exact ⟨f1'', o3''⟩ | go_keep) (first | (go_at_call 61; refine hA.mono ?_; rintro e w3 ⟨rfl, hb3⟩; have f1'' := pw_cell_below hb3 (show w2.drew.cell? _ = _ from f1'); have o3'' := pw_cell_below hb3 (show w2.drew.cell? _ = _ from o3')))
    go_wp2
    go_ret
    exact ⟨rfl, below_step B3 hb3⟩

def rchgM (m : S50) (kind due opt : Int) : S50 := ⟨m.f0, kind, if kind = 6 then m.f2 else due, if kind = 4 ∨ kind = 6 then opt else m.f3, m.f4⟩
def RPost (w0 w : World) (g cap : Nat) (ms ms' : List S50) (ok : Nat → Prop) (w' : World) : Prop :=
  Kd.R k50 50 w' w0.heap.size ok (.slice (some ⟨g, 0, none⟩) ms.length cap) ms' ∧ Below w0.heap.size w0 w' ∧ ∀ k, k < w.heap.size → k ≠ g → w'.heap[k]? = w.heap[k]?
section
variable {g cap : Nat} {ok : Nat → Prop} {ms : List S50} {w0 w V : World}
theorem rfin (hB : Below w0.heap.size w0 w) (hg0 : w0.heap.size ≤ g) (hBV : Below w.heap.size w V) (hr : Kd.R k50 50 V w0.heap.size ok (.slice (some ⟨g, 0, none⟩) ms.length cap) ms) (i : Int) (h0 : 0 ≤ i) (h1 : i < ms.length) (m : S50) (hm : rd_T50 ms i = m) (due opt : Int) :
    RPost w0 w g cap ms (ms.set i.toNat (rchgM m 2 due opt)) ok ((V.setCell ⟨g, i.toNat * 5 + 2, none⟩ (.int .i64 due)).setCell ⟨g, i.toNat * 5 + 1, none⟩ (.int .i64 2)) ∧
    RPost w0 w g cap ms (ms.set i.toNat (rchgM m 4 due opt)) ok ((((V.setCell ⟨g, i.toNat * 5 + 2, none⟩ (.int .i64 due)).setCell ⟨g, i.toNat * 5 + 1, none⟩ (.int .i64 2)).setCell ⟨g, i.toNat * 5 + 1, none⟩ (.int .i64 4)).setCell ⟨g, i.toNat * 5 + 3, none⟩ (.int .i64 opt)) := by
  have hV : Below w0.heap.size w0 V := below_then hB hB.size hBV
  have a1 := put2 hr i h0 h1 m hm due
  have a2 := put1 a1.1 i h0 h1 _ (rd_set ms i _ h0 h1) 2
  rw [List.set_set] at a2
  have a3 := put1 a2.1 i h0 h1 _ (rd_set ms i _ h0 h1) 4
  rw [List.set_set] at a3
  have a4 := put3 a3.1 i h0 h1 _ (rd_set ms i _ h0 h1) opt
  rw [List.set_set] at a4
  refine ⟨⟨a2.1, (hV.setCell hg0 _).setCell hg0 _, fun k hk hn => ?_⟩, ⟨a4.1, (((hV.setCell hg0 _).setCell hg0 _).setCell hg0 _).setCell hg0 _, fun k hk hn => ?_⟩⟩
  · rw [Below.heap_setCell _ _ _ k hn, Below.heap_setCell _ _ _ k hn]
    exact hBV.block k hk
  · rw [Below.heap_setCell _ _ _ k hn, Below.heap_setCell _ _ _ k hn, Below.heap_setCell _ _ _ k hn, Below.heap_setCell _ _ _ k hn]
    exact hBV.block k hk
theorem rfin2 (hB : Below w0.heap.size w0 w) (hg0 : w0.heap.size ≤ g) (hBV : Below w.heap.size w V) (hr : Kd.R k50 50 V w0.heap.size ok (.slice (some ⟨g, 0, none⟩) ms.length cap) ms) (i : Int) (h0 : 0 ≤ i) (h1 : i < ms.length) (m : S50) (hm : rd_T50 ms i = m) (opt : Int) :
    RPost w0 w g cap ms (ms.set i.toNat (rchgM m 3 0 opt)) ok ((V.setCell ⟨g, i.toNat * 5 + 1, none⟩ (.int .i64 3)).setCell ⟨g, i.toNat * 5 + 2, none⟩ (.int .i64 0)) ∧
    RPost w0 w g cap ms (ms.set i.toNat (rchgM m 5 0 opt)) ok ((V.setCell ⟨g, i.toNat * 5 + 1, none⟩ (.int .i64 5)).setCell ⟨g, i.toNat * 5 + 2, none⟩ (.int .i64 0)) ∧
    RPost w0 w g cap ms (ms.set i.toNat (rchgM m 6 0 opt)) ok ((V.setCell ⟨g, i.toNat * 5 + 1, none⟩ (.int .i64 6)).setCell ⟨g, i.toNat * 5 + 3, none⟩ (.int .i64 opt)) := by
  have hV : Below w0.heap.size w0 V := below_then hB hB.size hBV
  have a1 := fun s => put1 hr i h0 h1 m hm s
  have a2 := fun s => put2 (a1 s).1 i h0 h1 _ (rd_set ms i _ h0 h1) 0
  have a3 := put3 (a1 6).1 i h0 h1 _ (rd_set ms i _ h0 h1) opt
  simp only [List.set_set] at a2 a3
  refine ⟨⟨(a2 3).1, (hV.setCell hg0 _).setCell hg0 _, fun k hk hn => ?_⟩, ⟨(a2 5).1, (hV.setCell hg0 _).setCell hg0 _, fun k hk hn => ?_⟩, ⟨a3.1, (hV.setCell hg0 _).setCell hg0 _, fun k hk hn => ?_⟩⟩
  all_goals rw [Below.heap_setCell _ _ _ k hn, Below.heap_setCell _ _ _ k hn]
  all_goals exact hBV.block k hk
end

set_option maxHeartbeats 8000000 in
set_option maxRecDepth 100000 in
theorem rchange_ok (g gO : Nat) (i : Int) (cap : Nat) (ms : List S50) (ok : Nat → Prop) (kind day id opt d ans app : Int) (v u : Value) (ad : Int × Int) (w0 w : World) (hB : Below w0.heap.size w0 w) (h0 : 0 ≤ i) (h1 : i < ms.length)
    (hk : kind = 2 ∨ kind = 3 ∨ kind = 4 ∧ 0 ≤ opt ∧ opt < 4 ∨ kind = 5 ∨ kind = 6 ∧ 0 ≤ opt ∧ opt < 4)
    (hO : w.heap[gO]? = some (.cells #[.int .i64 d, .int .i64 ans, .int .i64 app, v, u] 30 (0, 0)))
    (hr : Kd.R k50 50 w w0.heap.size ok (.slice (some ⟨g, 0, none⟩) ms.length cap) ms)
    (ha : if kind = 2 ∨ kind = 4 then RAddAt w day (if kind = 2 then ans else app) v ad else ad = (0, 0)) (he : ad.2 = 0) :
    Calls Try.prog 49 #[.pointer (some ⟨gO, 0, none⟩), .pointer (some ⟨g, i.toNat * 5, none⟩), .agg #[.int .i64 kind, .int .i64 day, .int .i64 id, .int .i64 opt]] w fun e w' => e = .returned (.int .i64 0) ∧ RPost w0 w g cap ms (ms.set i.toNat (rchgM (rd_T50 ms i) kind ad.1 opt)) ok w' := by
  have hu := Try.underlying47
  have hu2 := Try.underlying27
  have hu3 := Try.underlying30
  have hu4 := Try.underlying50
  have hg0 : w0.heap.size ≤ g := by
    rcases Kd.R_base2 hr with h | ⟨k, h, hk⟩
    · simp [Value.ownBlock] at h
    · have : g = k := by simpa [Value.ownBlock] using h
      omega
  generalize hm : rd_T50 ms i = m at *
  have B1 : Below w.heap.size w (w.alloc (.cells #[.int .i64 kind, .int .i64 day, .int .i64 id, .int .i64 opt] 47 (0, 0))) := below_alloc (Below.refl _ _) _
  have K1 := blk_new w (.cells #[.int .i64 kind, .int .i64 day, .int .i64 id, .int .i64 opt] 47 (0, 0))
  have KO := blk_below hO B1
  have R1 := Kd.R_below hr B1
  have hgl : g < w.heap.size := World.block_lt_of_cell? w _ (elm hr i h0 h1 m hm).1
  have ng : g ≠ w.heap.size := by omega
  obtain ⟨f0, f1, f2, f3⟩ := cells4 ⟨K1⟩
  obtain ⟨o0, o1, o2, o3, o4⟩ := cells5 ⟨KO⟩
  obtain ⟨a1, a2⟩ := ad
  obtain rfl : a2 = 0 := he
  rcases hk with rfl | rfl | ⟨rfl, hk0, hk1⟩ | rfl | ⟨rfl, hk0, hk1⟩
  · rw [if_pos (.inl rfl), if_pos rfl] at ha
    go_enter Try.func49, Try.ntmps49
    go_upto_region 9 with (fail)
    generalize w.alloc (.cells #[.int .i64 2, .int .i64 day, .int .i64 id, .int .i64 opt] 47 (0, 0)) = W1 at *
    have hA := ha W1.drew (below_drew1 B1)
    have B2 := below_drew1 B1
    have R2 := Kd.R_drew R1
    clear ha hO
    go_region_held3 (fun w_ => w_.cell? ⟨w.heap.size, 0, none⟩ = some (.int .i64 2) ∧ w_.cell? ⟨w.heap.size, 1, none⟩ = some (.int .i64 day) ∧ w_.cell? ⟨gO, 3, none⟩ = some v) (first | exact ⟨f0, f1, o3⟩ | exact ⟨f0', f1', o3'⟩ | go_keep) (first | (go_at_call 61; refine hA.mono ?_; rintro e w2 ⟨rfl, hb⟩; have f0' := pw_cell_below hb (show W1.drew.cell? _ = _ from f0); have f1' := pw_cell_below hb (show W1.drew.cell? _ = _ from f1); have o3' := pw_cell_below hb (show W1.drew.cell? _ = _ from o3)))
    obtain ⟨e1, e2, e3, e4, e5, e6⟩ := elm (Kd.R_below R2 hb) i h0 h1 m hm
    go_wp2
    go_ret
    exact ⟨rfl, (rfin hB hg0 (below_step B2 hb) (Kd.R_below R2 hb) i h0 h1 m hm a1 opt).1⟩
  · rw [if_neg (by decide)] at ha
    obtain ⟨rfl, -⟩ := Prod.mk.inj ha
    obtain ⟨e1, e2, e3, e4, e5, e6⟩ := elm R1 i h0 h1 m hm
    go_enter Try.func49, Try.ntmps49
    go_upto_region 18 with (fail)
    generalize w.alloc (.cells #[.int .i64 3, .int .i64 day, .int .i64 id, .int .i64 opt] 47 (0, 0)) = W1 at *
    go_wp2
    go_ret
    exact ⟨rfl, (rfin2 hB hg0 B1 R1 i h0 h1 m hm opt).1⟩
  · rw [if_pos (.inr rfl), if_neg (by decide)] at ha
    have hop := option_some opt (w.alloc (.cells #[.int .i64 4, .int .i64 day, .int .i64 id, .int .i64 opt] 47 (0, 0)))
    rw [decide_eq_true (⟨hk0, hk1⟩ : 0 ≤ opt ∧ opt < 4)] at hop
    go_enter Try.func49, Try.ntmps49
    go_upto_region 9 with (go_at_call 59; refine hop.mono ?_; rintro e w2 ⟨rfl, hb⟩; have f0' := pw_cell_below hb f0; have f1' := pw_cell_below hb f1; have f3' := pw_cell_below hb f3; have o1' := pw_cell_below hb o1; have o2' := pw_cell_below hb o2; have o3' := pw_cell_below hb o3)
    have B2 := below_step B1 hb
    have hA := ha w2.drew (below_drew1 B2)
    have B3 := below_drew1 B2
    have R2 := Kd.R_drew (Kd.R_below R1 hb)
    clear ha hO hop
    go_region_held3 (fun w_ => w_.cell? ⟨w.heap.size, 0, none⟩ = some (.int .i64 4) ∧ w_.cell? ⟨w.heap.size, 1, none⟩ = some (.int .i64 day) ∧ w_.cell? ⟨w.heap.size, 3, none⟩ = some (.int .i64 opt) ∧ w_.cell? ⟨gO, 3, none⟩ = some v) (first | exact ⟨f0', f1', f3', o3'⟩ | exact ⟨f0'', f1'', f3'', o3''⟩ | go_keep) (first | (go_at_call 61; refine hA.mono ?_; rintro e w3 ⟨rfl, hb3⟩; have f0'' := pw_cell_below hb3 (show w2.drew.cell? _ = _ from f0'); have f1'' := pw_cell_below hb3 (show w2.drew.cell? _ = _ from f1'); have f3'' := pw_cell_below hb3 (show w2.drew.cell? _ = _ from f3'); have o3'' := pw_cell_below hb3 (show w2.drew.cell? _ = _ from o3')))
    obtain ⟨e1, e2, e3, e4, e5, e6⟩ := elm (Kd.R_below R2 hb3) i h0 h1 m hm
    go_wp2
    go_ret
    exact ⟨rfl, (rfin hB hg0 (below_step B3 hb3) (Kd.R_below R2 hb3) i h0 h1 m hm a1 opt).2⟩
  · rw [if_neg (by decide)] at ha
    obtain ⟨rfl, -⟩ := Prod.mk.inj ha
    obtain ⟨e1, e2, e3, e4, e5, e6⟩ := elm R1 i h0 h1 m hm
    go_enter Try.func49, Try.ntmps49
    go_upto_region 21 with (fail)
    generalize w.alloc (.cells #[.int .i64 5, .int .i64 day, .int .i64 id, .int .i64 opt] 47 (0, 0)) = W1 at *
    go_wp2
    go_ret
    exact ⟨rfl, (rfin2 hB hg0 B1 R1 i h0 h1 m hm opt).2.1⟩
  · rw [if_neg (by decide)] at ha
    obtain ⟨rfl, -⟩ := Prod.mk.inj ha
    have hop := option_some opt (w.alloc (.cells #[.int .i64 6, .int .i64 day, .int .i64 id, .int .i64 opt] 47 (0, 0)))
    rw [decide_eq_true (⟨hk0, hk1⟩ : 0 ≤ opt ∧ opt < 4)] at hop
    go_enter Try.func49, Try.ntmps49
    go_wp2_with (go_at_call 59; refine hop.mono ?_; rintro e w2 ⟨rfl, hb⟩; have R2 := Kd.R_below R1 hb; obtain ⟨e1, e2, e3, e4, e5, e6⟩ := elm R2 i h0 h1 m hm; have f0' := pw_cell_below hb f0; have f3' := pw_cell_below hb f3)
    go_ret
    exact ⟨rfl, (rfin2 hB hg0 (below_step B1 hb) R2 i h0 h1 m hm opt).2.2⟩
end Go.Proofs.Ytpfiecjacpbhkaa.D

/- insolvencyref33.File: what it comes to, by the contracts of Advance, opened, matterOf, required, change and AddDays. -/
namespace Go.Proofs.Ytpfiecjacpbhkaa.D
open Go.RowKit Go.Proofs.YtpfiecjacpbhkaaW.PrintWords Go.Proofs.YtpfiecjacpbhkaaW.PrintLast Go.Proofs.YtpfiecjacpbhkaaW.PrintMore
set_option linter.unusedVariables false
set_option linter.unusedSimpArgs false

def ref_File.tail (k : Nat) (day ans app : Int) (hs : List Int) (ms : List S50) (rl : List S52) (kind at_ id opt : Int) : Option Dk :=
  if kind < 1 ∨ 6 < kind then some (dkErr 1)
  else if ms.length < 4611686018427387904 then
    if kind = 1 then if (openF ms id).2 = 0 then some (day, ans, app, hs, (openF ms id).1, rl, 0) else some (dkErr (openF ms id).2)
    else if fnd id ms 0 < 0 then some (dkErr 11)
    else if (rd_T50 ms (fnd id ms 0)).f1 ≠ kind - 1 then some (dkErr 13)
    else if (kind = 4 ∨ kind = 6) ∧ (opt < 0 ∨ 4 ≤ opt) then some (dkErr 41)
    else (if kind = 2 ∨ kind = 4 then F.insolvencyref1_AddDays.f k at_ (if kind = 2 then ans else app) hs else some (0, 0)).bind fun ad =>
      if ad.2 ≠ 0 then some (dkErr ad.2)
      else if kind = 6 then if rl.length < 5864062014805 then some (day, ans, app, hs, ms.set (fnd id ms 0).toNat (rchgM (rd_T50 ms (fnd id ms 0)) kind ad.1 opt), rl ++ [⟨id, at_, opt⟩], 0) else none
      else some (day, ans, app, hs, ms.set (fnd id ms 0).toNat (rchgM (rd_T50 ms (fnd id ms 0)) kind ad.1 opt), rl, 0)
  else none
def ref_File.f (k : Nat) (a0 a1 a2 : Int) (l3 : List Int) (l4 : List S50) (kind at_ id opt : Int) : Option Dk :=
  (insolvencyref33_Advance.f k a0 a1 a2 l3 l4 at_).bind fun r => if r.2.2.2.2.2.2 = 0 then ref_File.tail k r.1 r.2.1 r.2.2.1 r.2.2.2.1 r.2.2.2.2.1 r.2.2.2.2.2.1 kind at_ id opt else some (dkErr r.2.2.2.2.2.2)
theorem ref_File.mono : ∀ a0 a1 a2 a3 a4 a5 a6 a7 a8 k, LeO (ref_File.f k a0 a1 a2 a3 a4 a5 a6 a7 a8) (ref_File.f (k + 1) a0 a1 a2 a3 a4 a5 a6 a7 a8) := by
  intro a0 a1 a2 a3 a4 a5 a6 a7 a8 k
  unfold ref_File.f ref_File.tail
  repeat' first
  | (with_reducible exact insolvencyref33_Advance.mono _ _ _ _ _ _ _)
  | (with_reducible exact F.insolvencyref1_AddDays.mono _ _ _ _)
  | (with_reducible exact LeO.refl _)
  | (with_reducible exact LeO.none _)
  | (with_reducible refine LeO.ite ?_ ?_)
  | (with_reducible refine LeO.bind ?_ (fun _ => ?_))

set_option maxHeartbeats 16000000 in
set_option maxRecDepth 100000 in
theorem rfile_walk (k : Nat) (d a p : Int) (v u : Value) (kind day id opt : Int) (r : Dk) (r' : Dk) (w : World)
    (hA : Calls Try.prog 27 #[.agg #[.int .i64 d, .int .i64 a, .int .i64 p, v, u], .int .i64 day] (filWorld w d a p v u kind day id opt) (FileEnd (filWorld w d a p v u kind day id opt) r))
    (h : (if r.2.2.2.2.2.2 = 0 then ref_File.tail k r.1 r.2.1 r.2.2.1 r.2.2.2.1 r.2.2.2.2.1 r.2.2.2.2.2.1 kind day id opt else some (dkErr r.2.2.2.2.2.2)) = some r') :
    Calls Try.prog 28 #[.agg #[.int .i64 d, .int .i64 a, .int .i64 p, v, u], .agg #[.int .i64 kind, .int .i64 day, .int .i64 id, .int .i64 opt]] w (FileEnd w r') := by
  have hu := Try.underlying47
  have hu2 := Try.underlying27
  have hu3 := Try.underlying30
  have hu4 := Try.underlying28
  have B0 := fil_below w d a p v u kind day id opt
  have K2 := fil_res w d a p v u kind day id opt
  have K1 := fil_file w d a p v u kind day id opt
  obtain ⟨r1, r2, r3, hs, ms, rl, r7⟩ := r
  go_enter Try.func28, Try.ntmps28
  go_upto_region 2 with (go_at_call 27; change Calls _ _ _ (filWorld w d a p v u kind day id opt) _; refine hA.mono ?_; rintro e w1 ⟨v3, v4, v5, rfl, h3, h4, h5, hb⟩; have K3 := blk_below K2 hb; have K4 := blk_below K1 hb; obtain ⟨A3, c3, rfl⟩ := Kd.R_slice h3; obtain ⟨A4, c4, rfl⟩ := Kd.R_slice h4; obtain ⟨A5, c5, rfl⟩ := Kd.R_slice h5)
  change Code.wp _ _ _ _ (w1.alloc (.cells #[.int .i64 r1, .int .i64 r2, .int .i64 r3, .slice A3 hs.length c3, .slice A4 ms.length c4] 30 (0, 0)))
  have KO := blk_new w1 (.cells #[.int .i64 r1, .int .i64 r2, .int .i64 r3, .slice A3 hs.length c3, .slice A4 ms.length c4] 30 (0, 0))
  have KZ := blk_alloc K3 (.cells #[.int .i64 r1, .int .i64 r2, .int .i64 r3, .slice A3 hs.length c3, .slice A4 ms.length c4] 30 (0, 0))
  have KF := blk_alloc K4 (.cells #[.int .i64 r1, .int .i64 r2, .int .i64 r3, .slice A3 hs.length c3, .slice A4 ms.length c4] 30 (0, 0))
  have R3 := Kd.R_alloc (Kd.R_lower h3 B0.size) (.cells #[.int .i64 r1, .int .i64 r2, .int .i64 r3, .slice A3 hs.length c3, .slice A4 ms.length c4] 30 (0, 0))
  have R4 := Kd.R_alloc (Kd.R_lower h4 B0.size) (.cells #[.int .i64 r1, .int .i64 r2, .int .i64 r3, .slice A3 hs.length c3, .slice A4 ms.length c4] 30 (0, 0))
  have R5 := Kd.R_alloc (Kd.R_lower h5 B0.size) (.cells #[.int .i64 r1, .int .i64 r2, .int .i64 r3, .slice A3 hs.length c3, .slice A4 ms.length c4] 30 (0, 0))
  have BW := below_alloc (below_step B0 hb) (.cells #[.int .i64 r1, .int .i64 r2, .int .i64 r3, .slice A3 hs.length c3, .slice A4 ms.length c4] 30 (0, 0))
  have n1 : w1.heap.size ≠ w.heap.size + 1 + 1 := Nat.ne_of_gt (blk_lt K3)
  have n2 : w1.heap.size ≠ w.heap.size + 1 := Nat.ne_of_gt (blk_lt K4)
  have n3 : w.heap.size + 1 ≠ w.heap.size + 1 + 1 := by omega
  have n4 : w.heap.size ≤ w.heap.size + 1 + 1 := by omega
  have n5 : w.heap.size ≤ w1.heap.size := Nat.le_trans n4 (Nat.le_of_lt (blk_lt K3))
  generalize w1.alloc (.cells #[.int .i64 r1, .int .i64 r2, .int .i64 r3, .slice A3 hs.length c3, .slice A4 ms.length c4] 30 (0, 0)) = W2 at *
  generalize w1.heap.size = gO at *
  generalize w.heap.size + 1 + 1 = gZ at *
  generalize w.heap.size + 1 = gB at *
  clear K1 K2 K3 K4 h3 h4 h5 hb hA B0 w1
  obtain ⟨z0, z1, z2, z3, z4⟩ := cells5 ⟨KZ⟩
  obtain ⟨x0, x1, x2, x3, x4⟩ := frz5 ⟨KZ⟩
  by_cases he : r7 = 0
  · rw [if_pos he] at h
    subst he
    obtain ⟨f0, f1, f2, f3⟩ := cells4 ⟨KF⟩
    obtain ⟨o0, o1, o2, o3, o4⟩ := cells5 ⟨KO⟩
    unfold ref_File.tail at h
    by_cases hk : kind < 1 ∨ 6 < kind
    · rw [if_pos hk] at h
      obtain rfl := Option.some.inj h
      clear h
      by_cases h1 : kind < 1
      · have e1 : decide (kind < 1) = true := decide_eq_true h1
        clear hk h1
        go_wp2
        refine bodyPost_ret (results_ctt rfl _ _ gZ 30 _ (0, 0) _ rfl (five_blk KZ _ _ _ _ _) Try.underlying30 rfl (by kernel_rfl)) rfl ?_
        exact end_err _ _ _ _ BW n4
      · have e1 : decide (kind < 1) = false := decide_eq_false h1
        have e2 : decide (6 < kind) = true := decide_eq_true (by omega)
        clear hk h1
        go_wp2
        refine bodyPost_ret (results_ctt rfl _ _ gZ 30 _ (0, 0) _ rfl (five_blk KZ _ _ _ _ _) Try.underlying30 rfl (by kernel_rfl)) rfl ?_
        exact end_err _ _ _ _ BW n4
    rw [if_neg hk] at h
    have e1 : decide (kind < 1) = false := decide_eq_false (by omega)
    have e2 : decide (6 < kind) = false := decide_eq_false (by omega)
    have hC := (Kd.R_reads' R4).2
    by_cases hl : ms.length < 4611686018427387904
    case neg => rw [if_neg hl] at h; cases h
    rw [if_pos hl] at h
    by_cases hk1 : kind = 1
    · rw [if_pos hk1] at h
      subst hk1
      by_cases ho : (openF ms id).2 = 0
      · rw [if_pos ho] at h
        obtain rfl := Option.some.inj h
        have hop := opened_ok gO r1 r2 r3 (.slice A3 hs.length c3) (.slice A4 ms.length c4) ms id w W2 BW n5 KO R4 ho
        clear h hk e1 e2 ho hl hC
        go_wp2_with (go_at_call 46; refine hop.mono ?_; rintro e w3 ⟨u3, rfl, KO3, R43, B3, hsame⟩; have nz := Kd.R_ne R4 KZ (by decide); have nf := Kd.R_ne R4 KF (by decide); have KZ3 := (hsame gZ (blk_lt KZ) (Ne.symm n1) nz).trans KZ; have KF3 := (hsame gB (blk_lt KF) (Ne.symm n2) nf).trans KF; have R33 := R_keep2 R3 hsame KO (by decide) (Kd.R_typed R4) (by decide); have R53 := R_keep2 R5 hsame KO (by decide) (Kd.R_typed R4) (by decide); obtain ⟨z0, z1, z2, z3, z4⟩ := cells5 ⟨KZ3⟩; obtain ⟨x0, x1, x2, x3, x4⟩ := frz5 ⟨KZ3⟩; obtain ⟨o0, o1, o2, o3, o4⟩ := cells5 ⟨KO3⟩; obtain ⟨f0, f1, f2, f3⟩ := cells4 ⟨KF3⟩; obtain ⟨A43, c43, rfl⟩ := Kd.R_slice R43)
        refine bodyPost_ret (results_ctt rfl _ _ gZ 30 _ (0, 0) _ rfl (five_blk KZ3 _ _ _ _ _) Try.underlying30 rfl (by kernel_rfl)) rfl ?_
        exact end_ok _ _ _ _ _ _ _ _ _ _ _ _ #[] B3 n4 KZ3 R33 R43 R53
      · rw [if_neg ho] at h
        obtain rfl := Option.some.inj h
        have hop := opened_err gO r1 r2 r3 (.slice A3 hs.length c3) A4 c4 ms id W2 hC.1 hl KO hC.2 ho
        have he2 : ((openF ms id).2 != 0) = true := by simpa using ho
        clear h hk e1 e2 ho hl hC
        generalize (openF ms id).2 = eo at *
        go_wp2_with (go_at_call 46; refine hop.mono ?_; rintro e w3 ⟨rfl, B3⟩; have KZ3 := blk_below KZ B3; obtain ⟨z0, z1, z2, z3, z4⟩ := cells5 ⟨KZ3⟩; obtain ⟨x0, x1, x2, x3, x4⟩ := frz5 ⟨KZ3⟩)
        refine bodyPost_ret (results_ctt rfl _ _ gZ 30 _ (0, 0) _ rfl (five_blk KZ3 _ _ _ _ _) Try.underlying30 rfl (by kernel_rfl)) rfl ?_
        exact end_err _ _ _ _ (below_step BW B3) n4
    rw [if_neg hk1] at h
    have e3 : (kind == 1) = false := by simpa using hk1
    have hf := matterOf_calls r1 r2 r3 (.slice A3 hs.length c3) A4 c4 ms id W2 hl hC.2
    have hq := fnd_lt id ms 0
    generalize fnd id ms 0 = q at *
    by_cases hq0 : q < 0
    · rw [if_pos hq0] at h
      obtain rfl := Option.some.inj h
      have e4 : decide (q < 0) = true := decide_eq_true hq0
      clear h hk hk1 hl hC hq hq0
      go_wp2_with (go_at_call 47; refine hf.mono ?_; rintro e w3 ⟨rfl, B3⟩; have KZ3 := blk_below KZ B3; obtain ⟨z0, z1, z2, z3, z4⟩ := cells5 ⟨KZ3⟩; obtain ⟨x0, x1, x2, x3, x4⟩ := frz5 ⟨KZ3⟩)
      refine bodyPost_ret (results_ctt rfl _ _ gZ 30 _ (0, 0) _ rfl (five_blk KZ3 _ _ _ _ _) Try.underlying30 rfl (by kernel_rfl)) rfl ?_
      exact end_err _ _ _ _ (below_step BW B3) n4
    rw [if_neg hq0] at h
    have e4 : decide (q < 0) = false := decide_eq_false hq0
    have hqn : q < (ms.length : Int) := by omega
    have hq1 : 0 ≤ q := by omega
    have p1 : (0 ≤ q) = True := eq_true hq1
    have p2 : (q < (ms.length : Int)) = True := eq_true hqn
    obtain ⟨g4, c4', eq4, -, hg4, -⟩ := Kd.R_form R4 (by omega)
    injection eq4 with eA _ eC
    subst eA
    subst eC
    clear hq hq0 hC hl
    have hreq := fun W => required_calls kind W (by omega)
    by_cases hst : (rd_T50 ms q).f1 ≠ kind - 1
    · rw [if_pos hst] at h
      obtain rfl := Option.some.inj h
      have hd8 : ((rd_T50 ms q).f1 != kind - 1) = true := by simpa using hst
      clear h
      go_upto_region 12 with (go_at_call 47; refine hf.mono ?_; rintro e w3 ⟨rfl, B3⟩; have KF3' := blk_below KF B3; obtain ⟨f0, f1, f2, f3⟩ := cells4 ⟨KF3'⟩)
      have KZ3 := blk_below KZ B3
      have KF3 := blk_below KF B3
      have KO3 := blk_below KO B3
      have R43 := Kd.R_below R4 B3
      have hc := (elm R43 q hq1 hqn _ rfl).1
      clear f0 f1 f2 f3 o0 o1 o2 o3 o4 z0 z1 z2 z3 z4 x0 x1 x2 x3 x4 hst
      generalize (rd_T50 ms q).f1 = stt at *
      obtain ⟨f0, f1, f2, f3⟩ := cells4 ⟨KF3⟩
      obtain ⟨o0, o1, o2, o3, o4⟩ := cells5 ⟨KO3⟩
      go_region_held3 (fun w_ => w_.cell? ⟨gB, 0, none⟩ = some (.int .i64 kind) ∧ w_.cell? ⟨gO, 4, none⟩ = some (.slice (some ⟨g4, 0, none⟩) ms.length c4) ∧ w_.cell? ⟨g4, q.toNat * 5 + 1, none⟩ = some (.int .i64 stt)) (first | exact ⟨f0, o4, hc⟩ | exact ⟨f0', o4', hc'⟩ | go_keep)
        (first | (go_at_call 48; refine (hreq _).mono ?_; rintro e w4 ⟨rfl, B4⟩; have f0' := pw_cell_below B4 (show w3.drew.cell? _ = _ from f0); have o4' := pw_cell_below B4 (show w3.drew.cell? _ = _ from o4); have hc' := pw_cell_below B4 (show w3.drew.cell? _ = _ from hc)))
      have KZ4 := blk_below (blk_drew KZ3) B4
      obtain ⟨z0, z1, z2, z3, z4⟩ := cells5 ⟨KZ4⟩
      obtain ⟨x0, x1, x2, x3, x4⟩ := frz5 ⟨KZ4⟩
      go_wp2
      refine bodyPost_ret (results_ctt rfl _ _ gZ 30 _ (0, 0) _ rfl (five_blk KZ4 _ _ _ _ _) Try.underlying30 rfl (by kernel_rfl)) rfl ?_
      exact end_err _ _ _ _ (below_step (below_drew1 (below_step BW B3)) B4) n4
    rw [if_neg hst] at h
    have hst' : (rd_T50 ms q).f1 = kind - 1 := by omega
    clear hst
    have hch : ∀ W, Below W2.heap.size W2 W → Calls Try.prog 49 #[.pointer (some ⟨gO, 0, none⟩), .pointer (some ⟨g4, q.toNat * 5, none⟩), .agg #[.int .i64 kind, .int .i64 day, .int .i64 id, .int .i64 opt]] W fun e w' => ∃ c, e = .returned (.int .i64 c) ∧ (∀ k, k < W.heap.size → k ≠ g4 → w'.heap[k]? = W.heap[k]?) ∧
        (c ≠ 0 ∧ r' = dkErr c ∧ Below W.heap.size W w' ∨ c = 0 ∧ ∃ x, r' = (r1, r2, r3, hs, ms.set q.toNat x, if kind = 6 then rl ++ [⟨id, day, opt⟩] else rl, 0) ∧ (kind = 6 → rl.length < 5864062014805) ∧
          Kd.R k50 50 w' w.heap.size (fun _ => True) (.slice (some ⟨g4, 0, none⟩) ms.length c4) (ms.set q.toNat x) ∧ Below w.heap.size w w') := by
      intro W hW
      have R4W := Kd.R_below R4 hW
      have KOW := blk_below KO hW
      by_cases hop : (kind = 4 ∨ kind = 6) ∧ (opt < 0 ∨ 4 ≤ opt)
      · rw [if_pos hop] at h
        obtain rfl := Option.some.inj h
        refine (rchange_opt g4 (q.toNat * 5) gO kind day id opt W hop.1 (by omega)).mono ?_
        rintro e w' ⟨rfl, hb⟩
        exact ⟨41, rfl, fun k hk _ => hb.block k hk, .inl ⟨by decide, rfl, hb⟩⟩
      rw [if_neg hop] at h
      obtain ⟨ad, had, h⟩ := Option.bind_eq_some_iff.mp h
      have hCh := (Kd.R_reads' R3).2
      have hAdd : kind = 2 ∨ kind = 4 → RAddAt W day (if kind = 2 then r2 else r3) (.slice A3 hs.length c3) ad := by
        intro h24 W1 hW1
        rw [if_pos h24] at had
        exact (F.insolvencyref1_AddDays.calls k day (if kind = 2 then r2 else r3) A3 c3 hs ad.1 ad.2 W1 (Kd.C_below (Kd.C_below hCh.2 hW) hW1) hCh.1 had).mono (fun e w' ⟨h1, h2⟩ => ⟨h1, h2.below⟩)
      by_cases ha : ad.2 ≠ 0
      · rw [if_pos ha] at h
        obtain rfl := Option.some.inj h
        have h24 : kind = 2 ∨ kind = 4 := by
          by_cases hh : kind = 2 ∨ kind = 4
          · exact hh
          · rw [if_neg hh] at had
            obtain rfl := Option.some.inj had
            exact absurd rfl ha
        refine (rchange_add g4 (q.toNat * 5) gO kind day id opt r1 r2 r3 (.slice A3 hs.length c3) _ ad W (by omega) KOW (hAdd h24) ha).mono ?_
        rintro e w' ⟨rfl, hb⟩
        exact ⟨ad.2, rfl, fun k hk _ => hb.block k hk, .inl ⟨ha, rfl, hb⟩⟩
      rw [if_neg ha] at h
      have ha0 : ad.2 = 0 := by omega
      have hA2 : if kind = 2 ∨ kind = 4 then RAddAt W day (if kind = 2 then r2 else r3) (.slice A3 hs.length c3) ad else ad = (0, 0) := by
        by_cases hh : kind = 2 ∨ kind = 4
        · rw [if_pos hh]; exact hAdd hh
        · rw [if_neg hh] at had ⊢
          exact (Option.some.inj had).symm
      refine (rchange_ok g4 gO q c4 ms (fun _ => True) kind day id opt r1 r2 r3 (.slice A3 hs.length c3) _ ad w W (below_step BW hW) hq1 hqn (by omega) KOW R4W hA2 ha0).mono ?_
      rintro e w' ⟨rfl, hR, hB, hs2⟩
      by_cases h6 : kind = 6
      · rw [if_pos h6] at h
        by_cases hrl : rl.length < 5864062014805
        · rw [if_pos hrl] at h
          obtain rfl := Option.some.inj h
          exact ⟨0, rfl, hs2, .inr ⟨rfl, _, by rw [if_pos h6], fun _ => hrl, hR, hB⟩⟩
        · rw [if_neg hrl] at h; cases h
      · rw [if_neg h6] at h
        obtain rfl := Option.some.inj h
        exact ⟨0, rfl, hs2, .inr ⟨rfl, _, by rw [if_neg h6], fun h => absurd h h6, hR, hB⟩⟩
    clear h hk hk1
    have hd8 : ((kind - 1) != (kind - 1)) = false := by simp
    go_upto_region 12 with (go_at_call 47; refine hf.mono ?_; rintro e w3a ⟨rfl, B3a⟩; have KF3' := blk_below KF B3a; obtain ⟨f0, f1, f2, f3⟩ := cells4 ⟨KF3'⟩)
    have KF3a := blk_below KF B3a
    have KO3a := blk_below KO B3a
    have hc := (elm (Kd.R_below R4 B3a) q hq1 hqn _ rfl).1
    rw [hst'] at hc
    clear f0 f1 f2 f3 o0 o1 o2 o3 o4 z0 z1 z2 z3 z4 x0 x1 x2 x3 x4
    obtain ⟨f0, f1, f2, f3⟩ := cells4 ⟨KF3a⟩
    obtain ⟨o0, o1, o2, o3, o4⟩ := cells5 ⟨KO3a⟩
    generalize hkm : kind - 1 = km at *
    go_region_held3 (fun w_ => w_.cell? ⟨gB, 0, none⟩ = some (.int .i64 kind) ∧ w_.cell? ⟨gO, 4, none⟩ = some (.slice (some ⟨g4, 0, none⟩) ms.length c4) ∧ w_.cell? ⟨g4, q.toNat * 5 + 1, none⟩ = some (.int .i64 km)) (first | exact ⟨f0, o4, hc⟩ | exact ⟨f0', o4', hc'⟩ | go_keep)
      (first | (go_at_call 48; refine (hreq _).mono ?_; rintro e w3 ⟨rfl, B4a⟩; have f0' := pw_cell_below B4a (show w3a.drew.cell? _ = _ from f0); have o4' := pw_cell_below B4a (show w3a.drew.cell? _ = _ from o4); have hc' := pw_cell_below B4a (show w3a.drew.cell? _ = _ from hc)))
    have B3 : Below W2.heap.size W2 w3 := below_step (below_drew1 B3a) B4a
    clear f0 f1 f2 f3 o0 o1 o2 o3 o4 hc f0' o4' hc' KF3a KO3a B3a B4a
    have KZ3 := blk_below KZ B3
    have KF3 := blk_below KF B3
    have KO3 := blk_below KO B3
    obtain ⟨f0, f1, f2, f3⟩ := cells4 ⟨KF3⟩
    obtain ⟨o0, o1, o2, o3, o4⟩ := cells5 ⟨KO3⟩
    go_upto_region 9 with (fail)
    have R33 := Kd.R_below R3 B3
    have R43 := Kd.R_below R4 B3
    have R53 := Kd.R_below R5 B3
    have hcal := hch w3.drew (below_drew1 B3)
    clear hch hkm hd8
    have nF : gB ≠ g4 := fun he => Kd.R_ne R4 KF (by decide) (by rw [he]; simp [Value.ownBlock])
    have nO : gO ≠ g4 := fun he => Kd.R_ne R4 KO (by decide) (by rw [he]; simp [Value.ownBlock])
    have nZ : gZ ≠ g4 := fun he => Kd.R_ne R4 KZ (by decide) (by rw [he]; simp [Value.ownBlock])
    go_region_held3 (fun w_ => w_.cell? ⟨gB, 0, none⟩ = some (.int .i64 kind) ∧ w_.cell? ⟨gB, 1, none⟩ = some (.int .i64 day) ∧ w_.cell? ⟨gB, 2, none⟩ = some (.int .i64 id) ∧ w_.cell? ⟨gB, 3, none⟩ = some (.int .i64 opt) ∧ w_.cell? ⟨gO, 4, none⟩ = some (.slice (some ⟨g4, 0, none⟩) ms.length c4)) (first | exact ⟨f0, f1, f2, f3, o4⟩ | exact ⟨f0', f1', f2', f3', o4'⟩ | go_keep)
      (first | (go_at_call 49; refine hcal.mono ?_; rintro e w4 ⟨c, rfl, hs4, hcc⟩; have KF4 := (hs4 gB (blk_lt (blk_drew KF3)) nF).trans (blk_drew KF3); have KO4 := (hs4 gO (blk_lt (blk_drew KO3)) nO).trans (blk_drew KO3); have KZ4 := (hs4 gZ (blk_lt (blk_drew KZ3)) nZ).trans (blk_drew KZ3); obtain ⟨f0', f1', f2', f3'⟩ := cells4 ⟨KF4⟩; obtain ⟨o0', o1', o2', o3', o4'⟩ := cells5 ⟨KO4⟩))
    obtain ⟨z0, z1, z2, z3, z4⟩ := cells5 ⟨KZ4⟩
    obtain ⟨x0, x1, x2, x3, x4⟩ := frz5 ⟨KZ4⟩
    clear f0 f1 f2 f3 o0 o1 o2 o3 o4 p1 p2
    rcases hcc with ⟨hc0, rfl, hb4⟩ | ⟨rfl, x, hr', hrl, R44, B4⟩
    · have he2 : (c != 0) = true := by simpa using hc0
      clear hc0
      go_wp2
      refine bodyPost_ret (results_ctt rfl _ _ gZ 30 _ (0, 0) _ rfl (five_blk KZ4 _ _ _ _ _) Try.underlying30 rfl (by kernel_rfl)) rfl ?_
      exact end_err _ _ _ _ (below_step (below_drew1 (below_step BW B3)) hb4) n4
    obtain ⟨gc, hgc⟩ := Kd.R_typed (Kd.R_drew R43) g4 (by simp [Value.ownBlock])
    have R34 := R_keep2 (u := .slice none 0 0) (t2 := 0) (Kd.R_drew R33) (fun k h1 h2 _ => hs4 k h1 h2) hgc (by decide) (fun k hk => by simp [Value.ownBlock] at hk) (by decide)
    have R54 := R_keep2 (u := .slice none 0 0) (t2 := 0) (Kd.R_drew R53) (fun k h1 h2 _ => hs4 k h1 h2) hgc (by decide) (fun k hk => by simp [Value.ownBlock] at hk) (by decide)
    by_cases h6 : kind = 6
    · subst h6
      rw [if_pos rfl] at hr'
      subst hr'
      have hrl := hrl rfl
      have NF := Kd.R_ne R54 KF4 (by decide)
      have NO := Kd.R_ne R54 KO4 (by decide)
      have NZ := Kd.R_ne R54 KZ4 (by decide)
      go_wp2_with (first | ((with_reducible refine gate_builtin (b := .append) (xs := #[.tmp 69, .tmp 77]) rfl ?_); at_builtin; refine Kd.R_append k52 (w0 := w) w.heap.size rfl (.tmp 69) (.tmp 77) 32 52 (.agg #[(.int .i64 0), (.int .i64 0), (.int .i64 0)]) 24 rfl Try.underlying32 info52 rfl (by decide) (by omega) _ rl (⟨id, day, opt⟩ : S52) [.int .i64 id, .int .i64 day, .int .i64 opt] (fun _ => True) (fun _ => False) rfl rfl ?aP (fun _ hk => hk.elim) ?aF ?aO ?aB ?aS ?aL ?_; (case aP => exact k52_mkM _ _ _ (⟨id, day, opt⟩ : S52)); (case aB => exact B4); (case aF => exact (fun _ _ => trivial)); (case aO => exact R54); (case aS => exact B4.size); (case aL => omega); intro v5 w5 ho5 hb5 hgr hat; change w4.grownBy w5 (Value.slice A5 rl.length c5).ownBlock at hgr; obtain ⟨A6, c6, rfl⟩ := Kd.R_slice ho5; have KZ5 := blk_grown KZ4 hgr NZ; have KO5 := blk_grown KO4 hgr NO; obtain ⟨z0, z1, z2, z3, z4⟩ := cells5 ⟨KZ5⟩; obtain ⟨x0, x1, x2, x3, x4⟩ := frz5 ⟨KZ5⟩; obtain ⟨o0', o1', o2', o3', o4'⟩ := cells5 ⟨KO5⟩))
      refine bodyPost_ret (results_ctt rfl _ _ gZ 30 _ (0, 0) _ rfl (five_blk KZ5 _ _ _ _ _) Try.underlying30 rfl (by kernel_rfl)) rfl ?_
      simp only [List.length_append, List.length_cons, List.length_nil, Nat.zero_add] at ho5
      have R35 := Kd.R_over' (v := .slice A5 rl.length c5) R34 (Kd.R_typed R54) (by decide) hgr
      have R45 := Kd.R_over' (v := .slice A5 rl.length c5) R44 (Kd.R_typed R54) (by decide) hgr
      exact end_ok _ _ _ _ _ _ _ _ _ _ _ _ #[] hb5 n4 KZ5 R35 R45 (Kd.R_mono ho5 (fun _ _ => trivial))
    · have e6 : (kind == 6) = false := by simpa using h6
      rw [if_neg h6] at hr'
      subst hr'
      clear h6 hrl
      go_wp2
      refine bodyPost_ret (results_ctt rfl _ _ gZ 30 _ (0, 0) _ rfl (five_blk KZ4 _ _ _ _ _) Try.underlying30 rfl (by kernel_rfl)) rfl ?_
      exact end_ok _ _ _ _ _ _ _ _ _ _ _ _ #[] B4 n4 KZ4 R34 R44 R54
  · rw [if_neg he] at h
    obtain rfl := Option.some.inj h
    have he2 : (r7 != 0) = true := by simpa using he
    clear he h
    go_wp2
    refine bodyPost_ret (results_ctt rfl _ _ gZ 30 _ (0, 0) _ rfl (five_blk KZ _ _ _ _ _) Try.underlying30 rfl (by kernel_rfl)) rfl ?_
    exact end_err _ _ _ _ BW n4

theorem ref_File.calls (k : Nat) (a0_0 : Int) (a0_1 : Int) (a0_2 : Int) (A0_3 : Option Addr) (c0_3 : Nat) (l0_3 : List Int) (A0_4 : Option Addr) (c0_4 : Nat) (l0_4 : List S50) (a1_0 a1_1 a1_2 a1_3 : Int) (r1 : Int) (r2 : Int) (r3 : Int) (r4 : List Int) (r5 : List S50) (r6 : List S52) (r7 : Int) (w : World) (hr0_3 : Kd.C (Kd.int .i64) w A0_3 l0_3.length l0_3) (hc0_3 : l0_3.length ≤ c0_3) (hr0_4 : Kd.C k50 w A0_4 l0_4.length l0_4) (hc0_4 : l0_4.length ≤ c0_4) (h : ref_File.f k a0_0 a0_1 a0_2 l0_3 l0_4 a1_0 a1_1 a1_2 a1_3 = some (r1, r2, r3, r4, r5, r6, r7)) :
    Calls Try.prog 28 #[.agg #[.int .i64 a0_0, .int .i64 a0_1, .int .i64 a0_2, .slice A0_3 l0_3.length c0_3, .slice A0_4 l0_4.length c0_4], .agg #[.int .i64 a1_0, .int .i64 a1_1, .int .i64 a1_2, .int .i64 a1_3]] w fun e w' => ∃ v3_ v4_ v5_ : Value, e = .returned (.tuple #[.agg #[.int .i64 r1, .int .i64 r2, .int .i64 r3, v3_, v4_], v5_, .int .i64 r7]) ∧ Kd.R (Kd.int .i64) 3 w' w.heap.size (fun _ => True) v3_ r4 ∧ Kd.R k50 50 w' w.heap.size (fun _ => True) v4_ r5 ∧ Kd.R k52 52 w' w.heap.size (fun _ => True) v5_ r6 ∧ Below w.heap.size w w' := by
  unfold ref_File.f at h
  obtain ⟨r, hr, h⟩ := Option.bind_eq_some_iff.mp h
  have hb := fil_below w a0_0 a0_1 a0_2 (.slice A0_3 l0_3.length c0_3) (.slice A0_4 l0_4.length c0_4) a1_0 a1_1 a1_2 a1_3
  have hA := insolvencyref33_Advance.calls k a0_0 a0_1 a0_2 A0_3 c0_3 l0_3 A0_4 c0_4 l0_4 a1_1 r.1 r.2.1 r.2.2.1 r.2.2.2.1 r.2.2.2.2.1 r.2.2.2.2.2.1 r.2.2.2.2.2.2 _ (Kd.C_below hr0_3 hb) hc0_3 (Kd.C_below hr0_4 hb) hc0_4 hr
  exact rfile_walk k a0_0 a0_1 a0_2 _ _ a1_0 a1_1 a1_2 a1_3 r (r1, r2, r3, r4, r5, r6, r7) w hA h
end Go.Proofs.Ytpfiecjacpbhkaa.D

/- What the Go functions named below come to, each told as_ a Lean function ('.f'), with the proof ('.calls'): no condition beyond those that each theorem states. Written by a program of this session's over the translation. -/
namespace Go.Proofs.Ytpfiecjacpbhkaa.D
open Go.RowKit Go.Proofs.YtpfiecjacpbhkaaW.PrintWords Go.Proofs.YtpfiecjacpbhkaaW.PrintLast Go.Proofs.YtpfiecjacpbhkaaW.PrintMore
attribute [local go_sem] max2_int min2_int max_two min_two max_three min_three max_four min_four   -- for this text's walks alone
set_option linter.unusedVariables false
set_option linter.unusedSimpArgs false

/-! ### insolvencyref33_PlayDocket: function 31 -/
def insolvencyref33_PlayDocket.l0 : Nat → List (S47) → List (S52) → Int → Int → Int → Int → List Int → List (S50) → Option (Int × Int × Int × List Int × (List (S50)) × (List (S52)) × Int × Int)
 | 0, _, _, _, _, _, _, _, _ => none
 | k + 1, x2, x12, x13, x662000, x662001, x662002, x662003, x662004 => if x13 < (x2.length : Int) then (if 0 ≤ x13 then ((ref_File.f k x662000 x662001 x662002 x662003 x662004 ((rd_T47 x2 x13).f0) ((rd_T47 x2 x13).f1) ((rd_T47 x2 x13).f2) ((rd_T47 x2 x13).f3)).bind fun bt663 => (if bt663.2.2.2.2.2.2 = 0 then (if x12.length + bt663.2.2.2.2.2.1.length < 5864062014805 then (insolvencyref33_PlayDocket.l0 k x2 (x12 ++ bt663.2.2.2.2.2.1) (wrap64 (x13 + 1)) bt663.1 bt663.2.1 bt663.2.2.1 bt663.2.2.2.1 bt663.2.2.2.2.1) else (none)) else (some (0, 0, 0, ([] : List Int), ([] : List (S50)), ([] : List (S52)), x13, bt663.2.2.2.2.2.2)))) else (none)) else (some (x662000, x662001, x662002, x662003, x662004, x12, (-1), 0))
def insolvencyref33_PlayDocket.f (k : Nat) (a0 : Int) (a1_0 : Int) (a1_1 : Int) (l1_2 : List Int) (l2 : List (S47)) : Option (Int × Int × Int × List Int × (List (S50)) × (List (S52)) × Int × Int) := (insolvencyref33_NewDocket.f a0 a1_0 a1_1 l1_2).bind fun bt651 => (if bt651.2.2.2.2.2 = 0 then (insolvencyref33_PlayDocket.l0 k l2 ([] : List (S52)) 0 bt651.1 bt651.2.1 bt651.2.2.1 bt651.2.2.2.1 bt651.2.2.2.2.1) else (some (0, 0, 0, ([] : List Int), ([] : List (S50)), ([] : List (S52)), (-1), bt651.2.2.2.2.2)))
theorem insolvencyref33_PlayDocket.mono_l : ∀ k, (∀ y0 y1 y2 y3 y4 y5 y6 y7, LeO (insolvencyref33_PlayDocket.l0 k y0 y1 y2 y3 y4 y5 y6 y7) (insolvencyref33_PlayDocket.l0 (k + 1) y0 y1 y2 y3 y4 y5 y6 y7))
 | 0 => fun _ _ _ _ _ _ _ _ r h => by simp [insolvencyref33_PlayDocket.l0] at h
 | k + 1 => by
  have ih0 := insolvencyref33_PlayDocket.mono_l k
  ·intro y0 y1 y2 y3 y4 y5 y6 y7
   unfold insolvencyref33_PlayDocket.l0
   repeat' first
   | (with_reducible exact ih0 _ _ _ _ _ _ _ _)
   | (with_reducible exact ref_File.mono _ _ _ _ _ _ _ _ _ _)
   | (with_reducible exact LeO.refl _)
   | (with_reducible exact LeO.none _)
   | (with_reducible refine LeO.ite ?_ ?_)
   | (with_reducible refine LeO.bind ?_ (fun _ => ?_))
   | exact ih0 _ _ _ _ _ _ _ _
   | exact ref_File.mono _ _ _ _ _ _ _ _ _ _
   | exact LeO.none _
   | refine LeO.ite ?_ ?_
   | refine LeO.bind ?_ (fun _ => ?_)
theorem insolvencyref33_PlayDocket.mono : ∀ a0 a1 a2 a3 a4 k, LeO (insolvencyref33_PlayDocket.f k a0 a1 a2 a3 a4) (insolvencyref33_PlayDocket.f (k + 1) a0 a1 a2 a3 a4) := by
 intro a0 a1 a2 a3 a4 k
 have ih0 := insolvencyref33_PlayDocket.mono_l k
 unfold insolvencyref33_PlayDocket.f
 repeat' first
   | (with_reducible exact ih0 _ _ _ _ _ _ _ _)
   | (with_reducible exact ref_File.mono _ _ _ _ _ _ _ _ _ _)
   | (with_reducible exact LeO.refl _)
   | (with_reducible exact LeO.none _)
   | (with_reducible refine LeO.ite ?_ ?_)
   | (with_reducible refine LeO.bind ?_ (fun _ => ?_))
   | exact ih0 _ _ _ _ _ _ _ _
   | exact ref_File.mono _ _ _ _ _ _ _ _ _ _
   | exact LeO.none _
   | refine LeO.ite ?_ ?_
   | refine LeO.bind ?_ (fun _ => ?_)
def insolvencyref33_PlayDocket.T8 : Bool × List (List Nat × List Nat) := (true, [([], []), ([], []), ([], []), ([1, 2], [1, 2]), ([3], [3]), ([0, 4], [0, 4]), ([5], [5]), ([6], [6]), ([6], [6]), ([6], [6]), ([], []), ([10, 7, 5, 0, 1, 2, 3, 4, 5, 6, 7, 10], [7, 10]), ([8, 11, 0, 1, 2, 3, 4, 5, 6, 7, 8, 10, 11], [8]), ([9, 12, 0, 1, 2, 3, 4, 5, 6, 7, 8, 9, 10, 11, 12], [9])])
def insolvencyref33_PlayDocket.B8 : List Nat := [0, 0, 0, 6, 14, 31, 63, 127, 127, 127, 0, 1279, 3583, 8191]
theorem insolvencyref33_PlayDocket.tab8 : rtab .any (opsOf Try.f31 8) = insolvencyref33_PlayDocket.T8 := by kernel_rfl
theorem insolvencyref33_PlayDocket.bits8 : waitsOk insolvencyref33_PlayDocket.T8.2 insolvencyref33_PlayDocket.B8 = true := by kernel_rfl
set_option maxHeartbeats 8000000 in
set_option maxRecDepth 100000 in
theorem insolvencyref33_PlayDocket.calls (k : Nat) (a0 : Int) (a1_0 : Int) (a1_1 : Int) (A1_2 : Option Addr) (c1_2 : Nat) (l1_2 : List Int) (A2 : Option Addr) (c2 : Nat) (l2 : List (S47)) (r1 : Int) (r2 : Int) (r3 : Int) (r4 : List Int) (r5 : List (S50)) (r6 : List (S52)) (r7 : Int) (r8 : Int) (w : World) (hr1_2 : Kd.C (Kd.int .i64) w A1_2 l1_2.length l1_2) (hc1_2 : l1_2.length ≤ c1_2) (hr2 : Kd.C k47 w A2 l2.length l2) (hc2 : l2.length ≤ c2) (h : insolvencyref33_PlayDocket.f k a0 a1_0 a1_1 l1_2 l2 = some (r1, r2, r3, r4, r5, r6, r7, r8)) :
  Calls Try.prog 31 #[.int .i64 a0, .agg #[.int .i64 a1_0, .int .i64 a1_1, .slice A1_2 l1_2.length c1_2], .slice A2 l2.length c2] w fun e w' => ∃ v3_ v4_ v5_ : Value, e = .returned (.tuple #[.agg #[.int .i64 r1, .int .i64 r2, .int .i64 r3, v3_, v4_], v5_, .int .i64 r7, .int .i64 r8]) ∧ Kd.R (Kd.int .i64) 3 w' w.heap.size (fun _ => True) v3_ r4 ∧ Kd.R k50 50 w' w.heap.size (fun _ => True) v4_ r5 ∧ Kd.R k52 52 w' w.heap.size (fun _ => True) v5_ r6 ∧ Below w.heap.size w w' := by
 have hu27 := Try.underlying27
 have hu30 := Try.underlying30
 have hu47 := Try.underlying47
 have HR1_2 := Aside0.mk hr1_2
 have HC1_2 := Aside0.mk hc1_2
 clear hr1_2 hc1_2
 have HR2 := Aside0.mk hr2
 have HC2 := Aside0.mk hc2
 clear hr2 hc2
 have HB := Aside0.mk (Below.refl w.heap.size w)
 have H : ((insolvencyref33_NewDocket.f a0 a1_0 a1_1 l1_2).bind fun bt651 => (if bt651.2.2.2.2.2 = 0 then (insolvencyref33_PlayDocket.l0 k l2 ([] : List (S52)) 0 bt651.1 bt651.2.1 bt651.2.2.1 bt651.2.2.2.1 bt651.2.2.2.2.1) else (some (0, 0, 0, ([] : List Int), ([] : List (S50)), ([] : List (S52)), (-1), bt651.2.2.2.2.2)))) = some (r1, r2, r3, r4, r5, r6, r7, r8) := h
 clear h
 replace H := Option.bind_eq_some_iff.mp H
 obtain ⟨⟨t651, t652, t653, t654, t657, t660⟩, A40, H⟩ := H
 replace H : (if t660 = 0 then (insolvencyref33_PlayDocket.l0 k l2 ([] : List (S52)) 0 t651 t652 t653 t654 t657) else (some (0, 0, 0, ([] : List Int), ([] : List (S50)), ([] : List (S52)), (-1), t660))) = some (r1, r2, r3, r4, r5, r6, r7, r8) := H
 have A4 := Aside0.mk A40
 clear A40
 by_cases c5 : t660 = 0
 ·rw [if_pos c5] at H
  have c5b0 : (t660 == 0) = true := beq_iff_eq.mpr c5
  have c5b1 : (t660 != 0) = false := bne_eq_false_iff_eq.mpr c5
  clear c5
  have H' := Aside0.mk H
  clear H
  go_enter Try.func31, Try.ntmps31
  go_wp2_with (first | ((with_reducible refine gate_dst (N := 4) rfl ?_); refine boxE (N := 4) #[.int .i64 a1_0, .int .i64 a1_1, .slice A1_2 l1_2.length c1_2] 27 ?_; intro gb649 hg w6 hbox hb; have BK649 := Aside0.mk (hbox); have GW649 := gS HB hg; have GE649 := gS HB hg; replace HB := Aside0.mk (below_step (pB HB) hb); clear hb hbox hg) | ((with_reducible refine gate_dst (N := 6) rfl ?_); refine boxE (N := 6) #[.int .i64 0, .int .i64 0, .int .i64 0, .slice none 0 0, .slice none 0 0] 30 ?_; intro gb650 hg w7 hbox hb; have BK650 := Aside0.mk (hbox); have GW650 := gS HB hg; have GE650 := gS HB hg; have NB649_650 := nL BK649 hg; have NB650_649 := nG BK649 hg; replace BK649 := bB BK649 hb; replace HB := Aside0.mk (below_step (pB HB) hb); clear hb hbox hg; have hnb8 := NB649_650.out; have hnc8 := NB650_649.out; obtain ⟨hcz9_0, hcz9_1, hcz9_2⟩ := cells3 BK649; obtain ⟨hfz9_0, hfz9_1, hfz9_2⟩ := frz3 BK649) | ((with_reducible refine gate_callee (f := 22) rfl ?_); refine goesL_ (some 20) rfl rfl Try.func22 (by kernel_rfl) rfl #[.int .i64 a0, .agg #[.int .i64 a1_0, .int .i64 a1_1, .slice A1_2 l1_2.length c1_2]] rfl (by (try simp only [List.map_toArray, List.map_cons, List.map_nil]); first | done | rfl | (simp only [List.length_drop, List.length_take]; rfl)) ?_; (with_reducible refine (insolvencyref33_NewDocket.calls a0 a1_0 a1_1 _ _ l1_2 t651 t652 t653 t654 t657 t660 _ ?side1 ?side2 A4.out).mono ?_); (case side1 => exact cB HR1_2 HB); (case side2 => exact HC1_2.out); rintro e w10 ⟨v655, v658, rfl, ho0, ho1, hb⟩; refine ⟨_, rfl, ?_⟩; have HO656 := Aside0.mk (Kd.R_lower ho0 (below_size (pB HB))); have HO659 := Aside0.mk (Kd.R_lower ho1 (below_size (pB HB))); replace BK649 := bB BK649 hb; replace BK650 := bB BK650 hb; replace HB := Aside0.mk (below_step (pB HB) hb); (try clear hb); (try clear ho0); (try clear ho1)) | ((with_reducible refine gate_dst (N := 10) rfl ?_); refine boxE (N := 10) #[.int .i64 0, .int .i64 0, .int .i64 0, .slice none 0 0, .slice none 0 0] 30 ?_; intro gb661 hg w11 hbox hb; have BK661 := Aside0.mk (hbox); have GW661 := gS HB hg; have GE661 := gS HB hg; have NB649_661 := nL BK649 hg; have NB661_649 := nG BK649 hg; have NB650_661 := nL BK650 hg; have NB661_650 := nG BK650 hg; replace HO656 := rB HO656 hb; replace HO659 := rB HO659 hb; replace BK649 := bB BK649 hb; replace BK650 := bB BK650 hb; replace HB := Aside0.mk (below_step (pB HB) hb); clear hb hbox hg; have hnb12 := NB661_649.out; have hnc12 := NB649_661.out; have hnb13 := NB661_650.out; have hnc13 := NB650_661.out; obtain ⟨hcz14_0, hcz14_1, hcz14_2, hcz14_3, hcz14_4⟩ := cells5 BK661; obtain ⟨hfz14_0, hfz14_1, hfz14_2, hfz14_3, hfz14_4⟩ := frz5 BK661; obtain ⟨Ao15, co15, eo15⟩ := Kd.R_slice HO656.out; subst eo15; obtain ⟨Ao16, co16, eo16⟩ := Kd.R_slice HO659.out; subst eo16))
  go_loopg [12, 13] k (fun kq v12 v13 w' => ∃ (x12_1 : List (S52)) (x13_1 : Int) (x651000_1 : Int) (x651001_1 : Int) (x651002_1 : Int) (x662000_1 : Int) (x662001_1 : Int) (x662002_1 : Int) (x662003_1 : List Int) (x662004_1 : List (S50)) (u662003 : Value) (u662004 : Value), v13 = .int .i64 x13_1 ∧ Aside0 (insolvencyref33_PlayDocket.l0 kq l2 x12_1 x13_1 x662000_1 x662001_1 x662002_1 x662003_1 x662004_1 = some (r1, r2, r3, r4, r5, r6, r7, r8)) ∧ Aside0 (kq ≤ k) ∧ Aside0 (Kd.R k52 52 w' w.heap.size (fun _ => True) v12 x12_1) ∧ Aside0 (Kd.R (Kd.int .i64) 3 w' w.heap.size (fun _ => True) u662003 x662003_1) ∧ Aside0 (Kd.R k50 50 w' w.heap.size (fun _ => True) u662004 x662004_1) ∧ Aside0 (w'.heap[gb649]? = some (.cells #[.int .i64 a1_0, .int .i64 a1_1, (.slice A1_2 l1_2.length c1_2)] 27 (0, 0))) ∧ Aside0 (w'.heap[gb650]? = some (.cells #[.int .i64 x651000_1, .int .i64 x651001_1, .int .i64 x651002_1, (.slice none 0 0), (.slice none 0 0)] 30 (0, 0))) ∧ Aside0 (w'.heap[gb661]? = some (.cells #[.int .i64 x662000_1, .int .i64 x662001_1, .int .i64 x662002_1, u662003, u662004] 30 (0, 0))) ∧ Aside0 (Below w.heap.size w w'))
  case atStart => exact ⟨(([] : List (S52))), (0), (0), (0), (0), (t651), (t652), (t653), (t654), (t657), (.slice Ao15 t654.length co15), (.slice Ao16 t657.length co16), (by first | rfl | (simp; done) | (simp [*]; done)), H', ⟨Nat.le_refl _⟩, ⟨by first | exact Kd.R_nil _ _ _ _ _ | exact Kd.N_nil _ _ _ _ _ | exact Kd.V_nil _ _ _ _ _ | exact Kd.Q_nil _ _ _ _ _ | exact Kd.S_nil _ _ _ _ _⟩, ⟨by (with_reducible repeat (first | apply Kd.R_alloc | apply Kd.R_drewN | apply Kd.R_drew)); exact Kd.R_mono (Kd.R_far (p := ⟨gb661, 4, none⟩) (Kd.R_far (p := ⟨gb661, 3, none⟩) (Kd.R_far (p := ⟨gb661, 2, none⟩) (Kd.R_far (p := ⟨gb661, 1, none⟩) (Kd.R_far (p := ⟨gb661, 0, none⟩) (Kd.R_types HO656.out BK661.out (by decide)) (fun _ hk => hk.2) (.int .i64 t651)) (fun _ hk => hk.2) (.int .i64 t652)) (fun _ hk => hk.2) (.int .i64 t653)) (fun _ hk => hk.2) (.slice Ao15 t654.length co15)) (fun _ hk => hk.2) (.slice Ao16 t657.length co16)) (fun _ hk => trivial)⟩, ⟨by (with_reducible repeat (first | apply Kd.R_alloc | apply Kd.R_drewN | apply Kd.R_drew)); exact Kd.R_mono (Kd.R_far (p := ⟨gb661, 4, none⟩) (Kd.R_far (p := ⟨gb661, 3, none⟩) (Kd.R_far (p := ⟨gb661, 2, none⟩) (Kd.R_far (p := ⟨gb661, 1, none⟩) (Kd.R_far (p := ⟨gb661, 0, none⟩) (Kd.R_types HO659.out BK661.out (by decide)) (fun _ hk => hk.2) (.int .i64 t651)) (fun _ hk => hk.2) (.int .i64 t652)) (fun _ hk => hk.2) (.int .i64 t653)) (fun _ hk => hk.2) (.slice Ao15 t654.length co15)) (fun _ hk => hk.2) (.slice Ao16 t657.length co16)) (fun _ hk => trivial)⟩, ⟨by (with_reducible repeat (first | refine blk_drewN ?_ _ | refine blk_drew ?_ | refine blk_alloc ?_ _)); refine blk_far ?_ NB649_661.out _; (with_reducible repeat (first | refine blk_drewN ?_ _ | refine blk_drew ?_ | refine blk_alloc ?_ _)); refine blk_far ?_ NB649_661.out _; (with_reducible repeat (first | refine blk_drewN ?_ _ | refine blk_drew ?_ | refine blk_alloc ?_ _)); refine blk_far ?_ NB649_661.out _; (with_reducible repeat (first | refine blk_drewN ?_ _ | refine blk_drew ?_ | refine blk_alloc ?_ _)); refine blk_far ?_ NB649_661.out _; (with_reducible repeat (first | refine blk_drewN ?_ _ | refine blk_drew ?_ | refine blk_alloc ?_ _)); refine blk_far ?_ NB649_661.out _; (with_reducible repeat (first | refine blk_drewN ?_ _ | refine blk_drew ?_ | refine blk_alloc ?_ _)); exact BK649.out⟩, ⟨by (with_reducible repeat (first | refine blk_drewN ?_ _ | refine blk_drew ?_ | refine blk_alloc ?_ _)); refine blk_far ?_ NB650_661.out _; (with_reducible repeat (first | refine blk_drewN ?_ _ | refine blk_drew ?_ | refine blk_alloc ?_ _)); refine blk_far ?_ NB650_661.out _; (with_reducible repeat (first | refine blk_drewN ?_ _ | refine blk_drew ?_ | refine blk_alloc ?_ _)); refine blk_far ?_ NB650_661.out _; (with_reducible repeat (first | refine blk_drewN ?_ _ | refine blk_drew ?_ | refine blk_alloc ?_ _)); refine blk_far ?_ NB650_661.out _; (with_reducible repeat (first | refine blk_drewN ?_ _ | refine blk_drew ?_ | refine blk_alloc ?_ _)); refine blk_far ?_ NB650_661.out _; (with_reducible repeat (first | refine blk_drewN ?_ _ | refine blk_drew ?_ | refine blk_alloc ?_ _)); exact BK650.out⟩, ⟨by (with_reducible repeat (first | refine blk_drewN ?_ _ | refine blk_drew ?_ | refine blk_alloc ?_ _)); refine blk_put (cs := #[.int .i64 t651, .int .i64 t652, .int .i64 t653, .slice Ao15 t654.length co15, .slice none 0 0]) ?_ 4 _ rfl; (with_reducible repeat (first | refine blk_drewN ?_ _ | refine blk_drew ?_ | refine blk_alloc ?_ _)); refine blk_put (cs := #[.int .i64 t651, .int .i64 t652, .int .i64 t653, .slice none 0 0, .slice none 0 0]) ?_ 3 _ rfl; (with_reducible repeat (first | refine blk_drewN ?_ _ | refine blk_drew ?_ | refine blk_alloc ?_ _)); refine blk_put (cs := #[.int .i64 t651, .int .i64 t652, .int .i64 0, .slice none 0 0, .slice none 0 0]) ?_ 2 _ rfl; (with_reducible repeat (first | refine blk_drewN ?_ _ | refine blk_drew ?_ | refine blk_alloc ?_ _)); refine blk_put (cs := #[.int .i64 t651, .int .i64 0, .int .i64 0, .slice none 0 0, .slice none 0 0]) ?_ 1 _ rfl; (with_reducible repeat (first | refine blk_drewN ?_ _ | refine blk_drew ?_ | refine blk_alloc ?_ _)); refine blk_put (cs := #[.int .i64 0, .int .i64 0, .int .i64 0, .slice none 0 0, .slice none 0 0]) ?_ 0 _ rfl; (with_reducible repeat (first | refine blk_drewN ?_ _ | refine blk_drew ?_ | refine blk_alloc ?_ _)); exact BK661.out⟩, ⟨pB HB⟩⟩
  case round =>
   clear H'
   try clear c1
   try clear c2
   try clear p2
   try clear c3
   try clear c5
   try clear c5b0
   try clear c5b1
   try clear c8
   try clear c12
   try clear c13
   obtain ⟨x12_1, x13_1, x651000_1, x651001_1, x651002_1, x662000_1, x662001_1, x662002_1, x662003_1, x662004_1, u662003, u662004, rfl, HA, HK1, HO_12, HO_662003, HO_662004, BK649, BK650, BK661, HB⟩ := hrel
   cases gk with
   | zero => exact absurd HA.out (by simp [insolvencyref33_PlayDocket.l0])
   | succ k1 =>
    have H := HA.out
    clear HA
    simp only [insolvencyref33_PlayDocket.l0] at H
    by_cases c17 : x13_1 < (l2.length : Int)
    ·rw [if_pos c17] at H
     have c17b0 : decide (x13_1 < (l2.length : Int)) = true := decide_eq_true c17
     clear c17
     by_cases c18 : 0 ≤ x13_1
     ·rw [if_pos c18] at H
      have c18b0 : decide (0 ≤ x13_1) = true := decide_eq_true c18
      clear c18
      replace H := Option.bind_eq_some_iff.mp H
      obtain ⟨⟨t663, t664, t665, t666, t669, t672, t675⟩, A190, H⟩ := H
      replace H : (if t675 = 0 then (if x12_1.length + t672.length < 5864062014805 then (insolvencyref33_PlayDocket.l0 k1 l2 (x12_1 ++ t672) (wrap64 (x13_1 + 1)) t663 t664 t665 t666 t669) else (none)) else (some (0, 0, 0, ([] : List Int), ([] : List (S50)), ([] : List (S52)), x13_1, t675))) = some (r1, r2, r3, r4, r5, r6, r7, r8) := H
      have A19 := Aside0.mk A190
      clear A190
      by_cases c20 : t675 = 0
      ·rw [if_pos c20] at H
       have c20b0 : (t675 == 0) = true := beq_iff_eq.mpr c20
       have c20b1 : (t675 != 0) = false := bne_eq_false_iff_eq.mpr c20
       clear c20
       by_cases c21 : x12_1.length + t672.length < 5864062014805
       ·rw [if_pos c21] at H
        have LMc21 := Aside0.mk c21
        clear c21
        obtain ⟨y677, hy677⟩ : ∃ y_ : List (S52), y_ = (x12_1 ++ t672) := ⟨_, rfl⟩
        replace H : (insolvencyref33_PlayDocket.l0 k1 l2 y677 (wrap64 (x13_1 + 1)) t663 t664 t665 t666 t669) = some (r1, r2, r3, r4, r5, r6, r7, r8) := by first | (rw [hy677]; with_reducible exact H) | (have H2_ := (Option.bind_some _ _).symm.trans H; rw [hy677]; with_reducible exact H2_) | (have H2_ := (Option.bind_some _ _).symm.trans H; with_reducible exact H2_) | with_reducible exact H | (rw [hy677]; exact H) | exact H
        have Ny677 := Aside0.mk hy677
        clear hy677
        have H' := Aside0.mk H
        clear H
        obtain ⟨Ao22, co22, eo22⟩ := Kd.R_slice HO_662003.out
        subst eo22
        obtain ⟨Ao23, co23, eo23⟩ := Kd.R_slice HO_662004.out
        subst eo23
        try go_wp2
        replace HO_12 := Aside0.mk (Kd.R_drew HO_12.out)
        replace HO_662003 := Aside0.mk (Kd.R_drew HO_662003.out)
        replace HO_662004 := Aside0.mk (Kd.R_drew HO_662004.out)
        replace BK649 := Aside0.mk (blk_drew BK649.out)
        replace BK650 := Aside0.mk (blk_drew BK650.out)
        replace BK661 := Aside0.mk (blk_drew BK661.out)
        replace HB := Aside0.mk (below_drew1 HB.out)
        have p662 : 0 ≤ (x13_1 : Int) := of_decide_eq_true (by first | (with_reducible assumption) | assumption)
        have q662 : x13_1 < (l2.length : Int) := of_decide_eq_true (by first | (with_reducible assumption) | assumption)
        obtain ⟨ad662, e662, hx662_0, hx662_1, hx662_2, hx662_3⟩ := at_T47 HR2.out x13_1 p662 q662
        have hw662_3 := hx662_3
        have hw662_2 := hx662_2
        have hw662_1 := hx662_1
        have hw662_0 := hx662_0
        cases e662
        replace hx662_0 := (HB.out.cell (World.block_lt_of_cell? w _ hx662_0)).trans hx662_0
        replace hx662_1 := (HB.out.cell (World.block_lt_of_cell? w _ hx662_1)).trans hx662_1
        replace hx662_2 := (HB.out.cell (World.block_lt_of_cell? w _ hx662_2)).trans hx662_2
        replace hx662_3 := (HB.out.cell (World.block_lt_of_cell? w _ hx662_3)).trans hx662_3
        replace p662 := eq_true p662
        replace q662 := eq_true q662
        refine start_ (n := 14) (S := fun w' => w'.cell? ⟨gb661, 0, none⟩ = some (.int .i64 x662000_1) ∧ w'.cell? ⟨gb661, 1, none⟩ = some (.int .i64 x662001_1) ∧ w'.cell? ⟨gb661, 2, none⟩ = some (.int .i64 x662002_1) ∧ w'.cell? ⟨gb661, 3, none⟩ = some (.slice Ao22 x662003_1.length co22) ∧ w'.cell? ⟨gb661, 4, none⟩ = some (.slice Ao23 x662004_1.length co23) ∧ w'.cell? (ad662.add ((x13_1).toNat * 4)) = some (.int .i64 ((rd_T47 l2 x13_1).f0)) ∧ w'.cell? ⟨(ad662.add ((x13_1).toNat * 4)).block, (ad662.add ((x13_1).toNat * 4)).off + 1, none⟩ = some (.int .i64 ((rd_T47 l2 x13_1).f1)) ∧ w'.cell? ⟨(ad662.add ((x13_1).toNat * 4)).block, (ad662.add ((x13_1).toNat * 4)).off + 2, none⟩ = some (.int .i64 ((rd_T47 l2 x13_1).f2)) ∧ w'.cell? ⟨(ad662.add ((x13_1).toNat * 4)).block, (ad662.add ((x13_1).toNat * 4)).off + 3, none⟩ = some (.int .i64 ((rd_T47 l2 x13_1).f3))) (ds := []) #[false, false, false, false, false, false, false, false, false, false, false, false, false, false] (by kernel_rfl) rfl rfl ⟨(blk_cell BK661.out 0).trans rfl, (blk_cell BK661.out 1).trans rfl, (blk_cell BK661.out 2).trans rfl, (blk_cell BK661.out 3).trans rfl, (blk_cell BK661.out 4).trans rfl, ((HB.out.cell (World.block_lt_of_cell? w _ hw662_0)).trans hw662_0), ((HB.out.cell (World.block_lt_of_cell? w _ hw662_1)).trans hw662_1), ((HB.out.cell (World.block_lt_of_cell? w _ hw662_2)).trans hw662_2), ((HB.out.cell (World.block_lt_of_cell? w _ hw662_3)).trans hw662_3)⟩ (fun hHeld => ?_); refine with_tabW insolvencyref33_PlayDocket.tab8 insolvencyref33_PlayDocket.bits8 (fun HT_ HW_ => ?_)
        generalize wr.drew = w24 at HO_12 HO_662003 HO_662004 BK649 BK650 BK661 HB hx662_0 hx662_1 hx662_2 hx662_3 hHeld ⊢
        refine pure_ (i := 1) (N := some 35) (v := ?_) (a' := ?_) #[false, true, false, false, false, false, false, false, false, false, false, false, false, false] rfl rfl (any_of HT_.out (by kernel_rfl)) (fun _ _ _ h => h) (Or.inl ⟨by rfl, ?_⟩) ?_ ?_
        rotate_left
        ·intro w'
         go_simp
         with_reducible rfl
        rotate_left
        ·simp only [Act.put, List.setIfInBounds_toArray, List.set_cons_zero, List.set_cons_succ, i64_w, i32_w]
         rfl
        refine pure_ (i := 2) (N := some 36) (v := ?_) (a' := ?_) #[false, true, true, false, false, false, false, false, false, false, false, false, false, false] rfl rfl (any_of HT_.out (by kernel_rfl)) (fun _ _ _ h => h) (Or.inl ⟨by rfl, ?_⟩) ?_ ?_
        rotate_left
        ·intro w'
         go_simp
         with_reducible rfl
        rotate_left
        ·simp only [Act.put, List.setIfInBounds_toArray, List.set_cons_zero, List.set_cons_succ, i64_w, i32_w]
         rfl
        refine pure_ (i := 3) (N := some 37) (v := ?_) (a' := ?_) #[false, true, true, true, false, false, false, false, false, false, false, false, false, false] rfl rfl (any_of HT_.out (by kernel_rfl)) (fun _ _ _ h => h) (Or.inl ⟨by rfl, ?_⟩) ?_ ?_
        rotate_left
        ·intro w'
         go_simp
         with_reducible rfl
        rotate_left
        ·simp only [Act.put, List.setIfInBounds_toArray, List.set_cons_zero, List.set_cons_succ, i64_w, i32_w]
         rfl
        refine take_ (i := 0) (N := some 34) (v := ?_) (a' := ?_) #[true, true, true, true, false, false, false, false, false, false, false, false, false, false] rfl rfl (take_ofW HT_.out HW_.out (by kernel_rfl)) (fun _ _ _ h => h) (Or.inl ⟨by rfl, ?_⟩) hHeld ?_ ?_
        rotate_left
        ·rintro w' ⟨s0, s1, s2, s3, s4, s5, s6, s7, s8⟩
         go_simp
         with_reducible rfl
        rotate_left
        ·simp only [Act.put, List.setIfInBounds_toArray, List.set_cons_zero, List.set_cons_succ, i64_w, i32_w]
         rfl
        refine take_ (i := 4) (N := some 38) (v := ?_) (a' := ?_) #[true, true, true, true, true, false, false, false, false, false, false, false, false, false] rfl rfl (take_ofW HT_.out HW_.out (by kernel_rfl)) (fun _ _ _ h => h) (Or.inl ⟨by rfl, ?_⟩) hHeld ?_ ?_
        rotate_left
        ·rintro w' ⟨s0, s1, s2, s3, s4, s5, s6, s7, s8⟩
         go_simp
         with_reducible rfl
        rotate_left
        ·simp only [Act.put, List.setIfInBounds_toArray, List.set_cons_zero, List.set_cons_succ, i64_w, i32_w]
         rfl
        refine join_ (σ := Value × Value × Value × Nat) 3 #[true, true, true, true, true, true, true, true, true, true, true, false, false, false] (fun s_ => [(39, .tuple #[.agg #[.int .i64 t663, .int .i64 t664, .int .i64 t665, s_.1, s_.2.1], s_.2.2.1, .int .i64 t675]), (14, .pointer (some ⟨s_.2.2.2, 0, none⟩)), (33, .tuple #[.agg #[.int .i64 t663, .int .i64 t664, .int .i64 t665, s_.1, s_.2.1], s_.2.2.1, .int .i64 t675]), (40, .agg #[.int .i64 t663, .int .i64 t664, .int .i64 t665, s_.1, s_.2.1]), (41, s_.2.2.1), (42, .int .i64 t675)]) (fun s_ w' => (w'.cell? ⟨gb661, 0, none⟩ = some (.int .i64 x662000_1) ∧ w'.cell? ⟨gb661, 1, none⟩ = some (.int .i64 x662001_1) ∧ w'.cell? ⟨gb661, 2, none⟩ = some (.int .i64 x662002_1) ∧ w'.cell? ⟨gb661, 3, none⟩ = some (.slice Ao22 x662003_1.length co22) ∧ w'.cell? ⟨gb661, 4, none⟩ = some (.slice Ao23 x662004_1.length co23) ∧ w'.cell? (ad662.add ((x13_1).toNat * 4)) = some (.int .i64 ((rd_T47 l2 x13_1).f0)) ∧ w'.cell? ⟨(ad662.add ((x13_1).toNat * 4)).block, (ad662.add ((x13_1).toNat * 4)).off + 1, none⟩ = some (.int .i64 ((rd_T47 l2 x13_1).f1)) ∧ w'.cell? ⟨(ad662.add ((x13_1).toNat * 4)).block, (ad662.add ((x13_1).toNat * 4)).off + 2, none⟩ = some (.int .i64 ((rd_T47 l2 x13_1).f2)) ∧ w'.cell? ⟨(ad662.add ((x13_1).toNat * 4)).block, (ad662.add ((x13_1).toNat * 4)).off + 3, none⟩ = some (.int .i64 ((rd_T47 l2 x13_1).f3))) ∧ (Kd.R (Kd.int .i64) 3 w' w.heap.size (fun k_ => some k_ ≠ (.slice Ao22 x662003_1.length co22 : Value).ownBlock) s_.1 t666) ∧ (Kd.R k50 50 w' w.heap.size (fun k_ => some k_ ≠ (.slice Ao23 x662004_1.length co23 : Value).ownBlock) s_.2.1 t669) ∧ (Kd.R k52 52 w' w.heap.size (fun k_ => some k_ ≠ (u12 : Value).ownBlock) s_.2.2.1 t672) ∧ (Kd.R k52 52 w' w.heap.size (fun k_ => some k_ ≠ (s_.2.2.1 : Value).ownBlock) u12 x12_1) ∧ (Kd.R (Kd.int .i64) 3 w' w.heap.size (fun k_ => some k_ ≠ (s_.1 : Value).ownBlock) (.slice Ao22 x662003_1.length co22) x662003_1) ∧ (Kd.R k50 50 w' w.heap.size (fun k_ => some k_ ≠ (s_.2.1 : Value).ownBlock) (.slice Ao23 x662004_1.length co23) x662004_1) ∧ (w'.heap[gb649]? = some (.cells #[.int .i64 a1_0, .int .i64 a1_1, .slice A1_2 l1_2.length c1_2] 27 (0, 0))) ∧ (w'.heap[gb650]? = some (.cells #[.int .i64 x651000_1, .int .i64 x651001_1, .int .i64 x651002_1, .slice none 0 0, .slice none 0 0] 30 (0, 0))) ∧ (w'.heap[gb661]? = some (.cells #[.int .i64 x662000_1, .int .i64 x662001_1, .int .i64 x662002_1, .slice Ao22 x662003_1.length co22, .slice Ao23 x662004_1.length co23] 30 (0, 0))) ∧ (w'.heap[s_.2.2.2]? = some (.cells #[.int .i64 0, .int .i64 0, .int .i64 0, .slice none 0 0, .slice none 0 0] 30 (0, 0))) ∧ (w.heap.size ≤ s_.2.2.2) ∧ (w.heap.size ≤ s_.2.2.2) ∧ (gb649 ≠ s_.2.2.2) ∧ (s_.2.2.2 ≠ gb649) ∧ (gb650 ≠ s_.2.2.2) ∧ (s_.2.2.2 ≠ gb650) ∧ (gb661 ≠ s_.2.2.2) ∧ (s_.2.2.2 ≠ gb661) ∧ (Below w.heap.size w w')) ?_ ?_
        rotate_left
        ·intro hCont
         refine two_ (i := 5) (j := 10) (Ni := some 39) (Nj := some 14) #[true, true, true, true, true, true, false, false, false, false, false, false, false, false] #[true, true, true, true, true, false, false, false, false, false, true, false, false, false] rfl rfl rfl rfl (two_of HT_.out (by kernel_rfl)) (by decide) (by decide) (fun K hK => ?_) (fun K hK => ?_)
         ·skip
          refine goes_ Try.func28 (by kernel_rfl) rfl #[.agg #[.int .i64 x662000_1, .int .i64 x662001_1, .int .i64 x662002_1, .slice Ao22 x662003_1.length co22, .slice Ao23 x662004_1.length co23], .agg #[.int .i64 ((rd_T47 l2 x13_1).f0), .int .i64 ((rd_T47 l2 x13_1).f1), .int .i64 ((rd_T47 l2 x13_1).f2), .int .i64 ((rd_T47 l2 x13_1).f3)]] (by rfl) rfl rfl (by (try simp only [List.map_toArray, List.map_cons, List.map_nil]); first | done | rfl | (simp only [List.length_drop, List.length_take]; rfl)) ?_
          with_reducible refine (ref_File.calls k1 x662000_1 x662001_1 x662002_1 _ _ x662003_1 _ _ x662004_1 ((rd_T47 l2 x13_1).f0) ((rd_T47 l2 x13_1).f1) ((rd_T47 l2 x13_1).f2) ((rd_T47 l2 x13_1).f3) t663 t664 t665 t666 t669 t672 t675 _ ?side1 ?side2 ?side3 ?side4 A19.out).mono ?_
          (case side1 => repeat (first | exact (Kd.R_reads' HO_662003.out).2.2 | (with_reducible refine Kd.C_alloc ?_ _) | (with_reducible refine Kd.C_drewN ?_ _) | (with_reducible refine Kd.C_drew ?_)))
          (case side2 => exact (Kd.R_reads' HO_662003.out).2.1)
          (case side3 => repeat (first | exact (Kd.R_reads' HO_662004.out).2.2 | (with_reducible refine Kd.C_alloc ?_ _) | (with_reducible refine Kd.C_drewN ?_ _) | (with_reducible refine Kd.C_drew ?_)))
          (case side4 => exact (Kd.R_reads' HO_662004.out).2.1)
          rintro e w25 ⟨v667, v670, v673, rfl, ho0, ho1, ho2, hb⟩
          refine ⟨_, rfl, ?_⟩
          have HO668 := Aside0.mk (Kd.R_lower (Kd.R_new' ho0 (Kd.R_lt (by (with_reducible repeat (first | apply Kd.R_alloc | apply Kd.R_drewN | apply Kd.R_drew)); exact HO_662003.out))) (below_size (pB HB)))
          have HO671 := Aside0.mk (Kd.R_lower (Kd.R_new' ho1 (Kd.R_lt (by (with_reducible repeat (first | apply Kd.R_alloc | apply Kd.R_drewN | apply Kd.R_drew)); exact HO_662004.out))) (below_size (pB HB)))
          have HO674 := Aside0.mk (Kd.R_lower (Kd.R_new' ho2 (Kd.R_lt (by (with_reducible repeat (first | apply Kd.R_alloc | apply Kd.R_drewN | apply Kd.R_drew)); exact HO_12.out))) (below_size (pB HB)))
          replace HO_12 := Aside0.mk (Kd.R_elder' (by (with_reducible repeat (first | apply Kd.R_alloc | apply Kd.R_drewN | apply Kd.R_drew)); exact HO_12.out) (Kd.R_base ho2) hb)
          replace HO_662003 := Aside0.mk (Kd.R_elder' (by (with_reducible repeat (first | apply Kd.R_alloc | apply Kd.R_drewN | apply Kd.R_drew)); exact HO_662003.out) (Kd.R_base ho0) hb)
          replace HO_662004 := Aside0.mk (Kd.R_elder' (by (with_reducible repeat (first | apply Kd.R_alloc | apply Kd.R_drewN | apply Kd.R_drew)); exact HO_662004.out) (Kd.R_base ho1) hb)
          replace BK649 := bB BK649 hb
          replace BK650 := bB BK650 hb
          replace BK661 := bB BK661 hb
          replace HB := Aside0.mk (below_step (pB HB) hb)
          (try clear hb)
          (try clear hb2)
          (try clear hk)
          (try clear hi)
          (try clear ho0)
          (try clear ho1)
          (try clear ho2)
          refine hK.out _ _ ⟨(blk_cell BK661.out 0).trans rfl, (blk_cell BK661.out 1).trans rfl, (blk_cell BK661.out 2).trans rfl, (blk_cell BK661.out 3).trans rfl, (blk_cell BK661.out 4).trans rfl, ((HB.out.cell (World.block_lt_of_cell? w _ hw662_0)).trans hw662_0), ((HB.out.cell (World.block_lt_of_cell? w _ hw662_1)).trans hw662_1), ((HB.out.cell (World.block_lt_of_cell? w _ hw662_2)).trans hw662_2), ((HB.out.cell (World.block_lt_of_cell? w _ hw662_3)).trans hw662_3)⟩ (fun hHeld => ?_)
          clear hK K
          refine norm_ (a' := ?_) ?_ ?_
          rotate_left
          ·show Act.put _ (some 39) _ = _
           simp only [Act.put, List.setIfInBounds_toArray, List.set_cons_zero, List.set_cons_succ, i64_w, i32_w]
           rfl
          refine pure_ (i := 6) (N := some 33) (v := ?_) (a' := ?_) #[true, true, true, true, true, true, true, false, false, false, false, false, false, false] rfl rfl (any_of HT_.out (by kernel_rfl)) (fun _ _ _ h => h) (Or.inl ⟨by rfl, ?_⟩) ?_ ?_
          rotate_left
          ·intro w'
           go_simp
           with_reducible rfl
          rotate_left
          ·simp only [Act.put, List.setIfInBounds_toArray, List.set_cons_zero, List.set_cons_succ, i64_w, i32_w]
           rfl
          refine pure_ (i := 7) (N := some 40) (v := ?_) (a' := ?_) #[true, true, true, true, true, true, true, true, false, false, false, false, false, false] rfl rfl (any_of HT_.out (by kernel_rfl)) (fun _ _ _ h => h) (Or.inl ⟨by rfl, ?_⟩) ?_ ?_
          rotate_left
          ·intro w'
           go_simp
           with_reducible rfl
          rotate_left
          ·simp only [Act.put, List.setIfInBounds_toArray, List.set_cons_zero, List.set_cons_succ, i64_w, i32_w]
           rfl
          refine pure_ (i := 8) (N := some 41) (v := ?_) (a' := ?_) #[true, true, true, true, true, true, true, true, true, false, false, false, false, false] rfl rfl (any_of HT_.out (by kernel_rfl)) (fun _ _ _ h => h) (Or.inl ⟨by rfl, ?_⟩) ?_ ?_
          rotate_left
          ·intro w'
           go_simp
           with_reducible rfl
          rotate_left
          ·simp only [Act.put, List.setIfInBounds_toArray, List.set_cons_zero, List.set_cons_succ, i64_w, i32_w]
           rfl
          refine pure_ (i := 9) (N := some 42) (v := ?_) (a' := ?_) #[true, true, true, true, true, true, true, true, true, true, false, false, false, false] rfl rfl (any_of HT_.out (by kernel_rfl)) (fun _ _ _ h => h) (Or.inl ⟨by rfl, ?_⟩) ?_ ?_
          rotate_left
          ·intro w'
           go_simp
           with_reducible rfl
          rotate_left
          ·simp only [Act.put, List.setIfInBounds_toArray, List.set_cons_zero, List.set_cons_succ, i64_w, i32_w]
           rfl
          refine one_ (i := 10) (N := some 14) #[true, true, true, true, true, true, true, true, true, true, true, false, false, false] rfl rfl (one_of HT_.out (by kernel_rfl)) (by decide) (fun K hK => ?_)
          refine box_step ?hg (N := 14) ?hd (cs := #[.int .i64 0, .int .i64 0, .int .i64 0, .slice none 0 0, .slice none 0 0]) (t := 30) ?hr ?_; (case hd => rfl); (case hg => rfl); (case hr => first | (go_simp; done) | (go_simp; rfl))
          intro gb676 hg w26 hbox hb
          have BK676 := Aside0.mk (hbox)
          have GW676 := gS HB hg
          have GE676 := gS HB hg
          have NB649_676 := nL BK649 hg
          have NB676_649 := nG BK649 hg
          have NB650_676 := nL BK650 hg
          have NB676_650 := nG BK650 hg
          have NB661_676 := nL BK661 hg
          have NB676_661 := nG BK661 hg
          replace HO_12 := rB HO_12 hb
          replace HO_662003 := rB HO_662003 hb
          replace HO_662004 := rB HO_662004 hb
          replace HO668 := rB HO668 hb
          replace HO671 := rB HO671 hb
          replace HO674 := rB HO674 hb
          replace BK649 := bB BK649 hb
          replace BK650 := bB BK650 hb
          replace BK661 := bB BK661 hb
          replace HB := Aside0.mk (below_step (pB HB) hb)
          clear hb hbox hg
          refine hK.out _ _ ⟨(blk_cell BK661.out 0).trans rfl, (blk_cell BK661.out 1).trans rfl, (blk_cell BK661.out 2).trans rfl, (blk_cell BK661.out 3).trans rfl, (blk_cell BK661.out 4).trans rfl, ((HB.out.cell (World.block_lt_of_cell? w _ hw662_0)).trans hw662_0), ((HB.out.cell (World.block_lt_of_cell? w _ hw662_1)).trans hw662_1), ((HB.out.cell (World.block_lt_of_cell? w _ hw662_2)).trans hw662_2), ((HB.out.cell (World.block_lt_of_cell? w _ hw662_3)).trans hw662_3)⟩ (fun hHeld => ?_)
          clear hK K
          refine norm_ (a' := ?_) ?_ ?_
          rotate_left
          ·show Act.put _ (some 14) _ = _
           simp only [Act.put, List.setIfInBounds_toArray, List.set_cons_zero, List.set_cons_succ, i64_w, i32_w]
           rfl
          exact norm_ (by simp only [putAll, Act.put, List.setIfInBounds_toArray, List.set_cons_zero, List.set_cons_succ]) (hCont (v667, v670, v673, gb676) _ ⟨hHeld, (by (with_reducible repeat (first | apply Kd.R_alloc | apply Kd.R_drewN | apply Kd.R_drew)); exact Kd.R_mono HO668.out (fun _ hk => hk.2)), (by (with_reducible repeat (first | apply Kd.R_alloc | apply Kd.R_drewN | apply Kd.R_drew)); exact Kd.R_mono HO671.out (fun _ hk => hk.2)), (by (with_reducible repeat (first | apply Kd.R_alloc | apply Kd.R_drewN | apply Kd.R_drew)); exact Kd.R_mono HO674.out (fun _ hk => hk.2)), (by (with_reducible repeat (first | apply Kd.R_alloc | apply Kd.R_drewN | apply Kd.R_drew)); exact Kd.R_mono HO_12.out (fun _ hk => hk.2)), (by (with_reducible repeat (first | apply Kd.R_alloc | apply Kd.R_drewN | apply Kd.R_drew)); exact Kd.R_mono HO_662003.out (fun _ hk => hk.2)), (by (with_reducible repeat (first | apply Kd.R_alloc | apply Kd.R_drewN | apply Kd.R_drew)); exact Kd.R_mono HO_662004.out (fun _ hk => hk.2)), (by (with_reducible repeat (first | refine blk_drewN ?_ _ | refine blk_drew ?_ | refine blk_alloc ?_ _)); exact BK649.out), (by (with_reducible repeat (first | refine blk_drewN ?_ _ | refine blk_drew ?_ | refine blk_alloc ?_ _)); exact BK650.out), (by (with_reducible repeat (first | refine blk_drewN ?_ _ | refine blk_drew ?_ | refine blk_alloc ?_ _)); exact BK661.out), (by (with_reducible repeat (first | refine blk_drewN ?_ _ | refine blk_drew ?_ | refine blk_alloc ?_ _)); exact BK676.out), GW676.out, GE676.out, NB649_676.out, NB676_649.out, NB650_676.out, NB676_650.out, NB661_676.out, NB676_661.out, (pB HB)⟩)
         ·skip
          refine box_step ?hg (N := 14) ?hd (cs := #[.int .i64 0, .int .i64 0, .int .i64 0, .slice none 0 0, .slice none 0 0]) (t := 30) ?hr ?_; (case hd => rfl); (case hg => rfl); (case hr => first | (go_simp; done) | (go_simp; rfl))
          intro gb676 hg w25 hbox hb
          have BK676 := Aside0.mk (hbox)
          have GW676 := gS HB hg
          have GE676 := gS HB hg
          have NB649_676 := nL BK649 hg
          have NB676_649 := nG BK649 hg
          have NB650_676 := nL BK650 hg
          have NB676_650 := nG BK650 hg
          have NB661_676 := nL BK661 hg
          have NB676_661 := nG BK661 hg
          replace HO_12 := rB HO_12 hb
          replace HO_662003 := rB HO_662003 hb
          replace HO_662004 := rB HO_662004 hb
          replace BK649 := bB BK649 hb
          replace BK650 := bB BK650 hb
          replace BK661 := bB BK661 hb
          replace HB := Aside0.mk (below_step (pB HB) hb)
          clear hb hbox hg
          refine hK.out _ _ ⟨(blk_cell BK661.out 0).trans rfl, (blk_cell BK661.out 1).trans rfl, (blk_cell BK661.out 2).trans rfl, (blk_cell BK661.out 3).trans rfl, (blk_cell BK661.out 4).trans rfl, ((HB.out.cell (World.block_lt_of_cell? w _ hw662_0)).trans hw662_0), ((HB.out.cell (World.block_lt_of_cell? w _ hw662_1)).trans hw662_1), ((HB.out.cell (World.block_lt_of_cell? w _ hw662_2)).trans hw662_2), ((HB.out.cell (World.block_lt_of_cell? w _ hw662_3)).trans hw662_3)⟩ (fun hHeld => ?_)
          clear hK K
          refine norm_ (a' := ?_) ?_ ?_
          rotate_left
          ·show Act.put _ (some 14) _ = _
           simp only [Act.put, List.setIfInBounds_toArray, List.set_cons_zero, List.set_cons_succ, i64_w, i32_w]
           rfl
          refine one_ (i := 5) (N := some 39) #[true, true, true, true, true, true, false, false, false, false, true, false, false, false] rfl rfl (one_of HT_.out (by kernel_rfl)) (by decide) (fun K hK => ?_)
          refine goes_ Try.func28 (by kernel_rfl) rfl #[.agg #[.int .i64 x662000_1, .int .i64 x662001_1, .int .i64 x662002_1, .slice Ao22 x662003_1.length co22, .slice Ao23 x662004_1.length co23], .agg #[.int .i64 ((rd_T47 l2 x13_1).f0), .int .i64 ((rd_T47 l2 x13_1).f1), .int .i64 ((rd_T47 l2 x13_1).f2), .int .i64 ((rd_T47 l2 x13_1).f3)]] (by rfl) rfl rfl (by (try simp only [List.map_toArray, List.map_cons, List.map_nil]); first | done | rfl | (simp only [List.length_drop, List.length_take]; rfl)) ?_
          with_reducible refine (ref_File.calls k1 x662000_1 x662001_1 x662002_1 _ _ x662003_1 _ _ x662004_1 ((rd_T47 l2 x13_1).f0) ((rd_T47 l2 x13_1).f1) ((rd_T47 l2 x13_1).f2) ((rd_T47 l2 x13_1).f3) t663 t664 t665 t666 t669 t672 t675 _ ?side1 ?side2 ?side3 ?side4 A19.out).mono ?_
          (case side1 => repeat (first | exact (Kd.R_reads' HO_662003.out).2.2 | (with_reducible refine Kd.C_alloc ?_ _) | (with_reducible refine Kd.C_drewN ?_ _) | (with_reducible refine Kd.C_drew ?_)))
          (case side2 => exact (Kd.R_reads' HO_662003.out).2.1)
          (case side3 => repeat (first | exact (Kd.R_reads' HO_662004.out).2.2 | (with_reducible refine Kd.C_alloc ?_ _) | (with_reducible refine Kd.C_drewN ?_ _) | (with_reducible refine Kd.C_drew ?_)))
          (case side4 => exact (Kd.R_reads' HO_662004.out).2.1)
          rintro e w26 ⟨v667, v670, v673, rfl, ho0, ho1, ho2, hb⟩
          refine ⟨_, rfl, ?_⟩
          have HO668 := Aside0.mk (Kd.R_lower (Kd.R_new' ho0 (Kd.R_lt (by (with_reducible repeat (first | apply Kd.R_alloc | apply Kd.R_drewN | apply Kd.R_drew)); exact HO_662003.out))) (below_size (pB HB)))
          have HO671 := Aside0.mk (Kd.R_lower (Kd.R_new' ho1 (Kd.R_lt (by (with_reducible repeat (first | apply Kd.R_alloc | apply Kd.R_drewN | apply Kd.R_drew)); exact HO_662004.out))) (below_size (pB HB)))
          have HO674 := Aside0.mk (Kd.R_lower (Kd.R_new' ho2 (Kd.R_lt (by (with_reducible repeat (first | apply Kd.R_alloc | apply Kd.R_drewN | apply Kd.R_drew)); exact HO_12.out))) (below_size (pB HB)))
          replace HO_12 := Aside0.mk (Kd.R_elder' (by (with_reducible repeat (first | apply Kd.R_alloc | apply Kd.R_drewN | apply Kd.R_drew)); exact HO_12.out) (Kd.R_base ho2) hb)
          replace HO_662003 := Aside0.mk (Kd.R_elder' (by (with_reducible repeat (first | apply Kd.R_alloc | apply Kd.R_drewN | apply Kd.R_drew)); exact HO_662003.out) (Kd.R_base ho0) hb)
          replace HO_662004 := Aside0.mk (Kd.R_elder' (by (with_reducible repeat (first | apply Kd.R_alloc | apply Kd.R_drewN | apply Kd.R_drew)); exact HO_662004.out) (Kd.R_base ho1) hb)
          replace BK649 := bB BK649 hb
          replace BK650 := bB BK650 hb
          replace BK661 := bB BK661 hb
          replace BK676 := bB BK676 hb
          replace HB := Aside0.mk (below_step (pB HB) hb)
          (try clear hb)
          (try clear hb2)
          (try clear hk)
          (try clear hi)
          (try clear ho0)
          (try clear ho1)
          (try clear ho2)
          refine hK.out _ _ ⟨(blk_cell BK661.out 0).trans rfl, (blk_cell BK661.out 1).trans rfl, (blk_cell BK661.out 2).trans rfl, (blk_cell BK661.out 3).trans rfl, (blk_cell BK661.out 4).trans rfl, ((HB.out.cell (World.block_lt_of_cell? w _ hw662_0)).trans hw662_0), ((HB.out.cell (World.block_lt_of_cell? w _ hw662_1)).trans hw662_1), ((HB.out.cell (World.block_lt_of_cell? w _ hw662_2)).trans hw662_2), ((HB.out.cell (World.block_lt_of_cell? w _ hw662_3)).trans hw662_3)⟩ (fun hHeld => ?_)
          clear hK K
          refine norm_ (a' := ?_) ?_ ?_
          rotate_left
          ·show Act.put _ (some 39) _ = _
           simp only [Act.put, List.setIfInBounds_toArray, List.set_cons_zero, List.set_cons_succ, i64_w, i32_w]
           rfl
          refine pure_ (i := 6) (N := some 33) (v := ?_) (a' := ?_) #[true, true, true, true, true, true, true, false, false, false, true, false, false, false] rfl rfl (any_of HT_.out (by kernel_rfl)) (fun _ _ _ h => h) (Or.inl ⟨by rfl, ?_⟩) ?_ ?_
          rotate_left
          ·intro w'
           go_simp
           with_reducible rfl
          rotate_left
          ·simp only [Act.put, List.setIfInBounds_toArray, List.set_cons_zero, List.set_cons_succ, i64_w, i32_w]
           rfl
          refine pure_ (i := 7) (N := some 40) (v := ?_) (a' := ?_) #[true, true, true, true, true, true, true, true, false, false, true, false, false, false] rfl rfl (any_of HT_.out (by kernel_rfl)) (fun _ _ _ h => h) (Or.inl ⟨by rfl, ?_⟩) ?_ ?_
          rotate_left
          ·intro w'
           go_simp
           with_reducible rfl
          rotate_left
          ·simp only [Act.put, List.setIfInBounds_toArray, List.set_cons_zero, List.set_cons_succ, i64_w, i32_w]
           rfl
          refine pure_ (i := 8) (N := some 41) (v := ?_) (a' := ?_) #[true, true, true, true, true, true, true, true, true, false, true, false, false, false] rfl rfl (any_of HT_.out (by kernel_rfl)) (fun _ _ _ h => h) (Or.inl ⟨by rfl, ?_⟩) ?_ ?_
          rotate_left
          ·intro w'
           go_simp
           with_reducible rfl
          rotate_left
          ·simp only [Act.put, List.setIfInBounds_toArray, List.set_cons_zero, List.set_cons_succ, i64_w, i32_w]
           rfl
          refine pure_ (i := 9) (N := some 42) (v := ?_) (a' := ?_) #[true, true, true, true, true, true, true, true, true, true, true, false, false, false] rfl rfl (any_of HT_.out (by kernel_rfl)) (fun _ _ _ h => h) (Or.inl ⟨by rfl, ?_⟩) ?_ ?_
          rotate_left
          ·intro w'
           go_simp
           with_reducible rfl
          rotate_left
          ·simp only [Act.put, List.setIfInBounds_toArray, List.set_cons_zero, List.set_cons_succ, i64_w, i32_w]
           rfl
          exact norm_ (by simp only [putAll, Act.put, List.setIfInBounds_toArray, List.set_cons_zero, List.set_cons_succ]) (hCont (v667, v670, v673, gb676) _ ⟨hHeld, (by (with_reducible repeat (first | apply Kd.R_alloc | apply Kd.R_drewN | apply Kd.R_drew)); exact Kd.R_mono HO668.out (fun _ hk => hk.2)), (by (with_reducible repeat (first | apply Kd.R_alloc | apply Kd.R_drewN | apply Kd.R_drew)); exact Kd.R_mono HO671.out (fun _ hk => hk.2)), (by (with_reducible repeat (first | apply Kd.R_alloc | apply Kd.R_drewN | apply Kd.R_drew)); exact Kd.R_mono HO674.out (fun _ hk => hk.2)), (by (with_reducible repeat (first | apply Kd.R_alloc | apply Kd.R_drewN | apply Kd.R_drew)); exact Kd.R_mono HO_12.out (fun _ hk => hk.2)), (by (with_reducible repeat (first | apply Kd.R_alloc | apply Kd.R_drewN | apply Kd.R_drew)); exact Kd.R_mono HO_662003.out (fun _ hk => hk.2)), (by (with_reducible repeat (first | apply Kd.R_alloc | apply Kd.R_drewN | apply Kd.R_drew)); exact Kd.R_mono HO_662004.out (fun _ hk => hk.2)), (by (with_reducible repeat (first | refine blk_drewN ?_ _ | refine blk_drew ?_ | refine blk_alloc ?_ _)); exact BK649.out), (by (with_reducible repeat (first | refine blk_drewN ?_ _ | refine blk_drew ?_ | refine blk_alloc ?_ _)); exact BK650.out), (by (with_reducible repeat (first | refine blk_drewN ?_ _ | refine blk_drew ?_ | refine blk_alloc ?_ _)); exact BK661.out), (by (with_reducible repeat (first | refine blk_drewN ?_ _ | refine blk_drew ?_ | refine blk_alloc ?_ _)); exact BK676.out), GW676.out, GE676.out, NB649_676.out, NB676_649.out, NB650_676.out, NB676_650.out, NB661_676.out, NB676_661.out, (pB HB)⟩)
        rintro ⟨v667, v670, v673, gb676⟩ w27 ⟨hS_, h0_, h1_, h2_, h3_, h4_, h5_, h6_, h7_, h8_, h9_, h10_, h11_, h12_, h13_, h14_, h15_, h16_, h17_, h18_⟩
        have n0_ : Aside0 (Kd.R (Kd.int .i64) 3 w27 w.heap.size (fun k_ => some k_ ≠ (.slice Ao22 x662003_1.length co22 : Value).ownBlock) v667 t666) := ⟨h0_⟩
        have n1_ : Aside0 (Kd.R k50 50 w27 w.heap.size (fun k_ => some k_ ≠ (.slice Ao23 x662004_1.length co23 : Value).ownBlock) v670 t669) := ⟨h1_⟩
        have n2_ : Aside0 (Kd.R k52 52 w27 w.heap.size (fun k_ => some k_ ≠ (u12 : Value).ownBlock) v673 t672) := ⟨h2_⟩
        have n3_ : Aside0 (Kd.R k52 52 w27 w.heap.size (fun k_ => some k_ ≠ (v673 : Value).ownBlock) u12 x12_1) := ⟨h3_⟩
        have n4_ : Aside0 (Kd.R (Kd.int .i64) 3 w27 w.heap.size (fun k_ => some k_ ≠ (v667 : Value).ownBlock) (.slice Ao22 x662003_1.length co22) x662003_1) := ⟨h4_⟩
        have n5_ : Aside0 (Kd.R k50 50 w27 w.heap.size (fun k_ => some k_ ≠ (v670 : Value).ownBlock) (.slice Ao23 x662004_1.length co23) x662004_1) := ⟨h5_⟩
        have n6_ : Aside0 (w27.heap[gb649]? = some (.cells #[.int .i64 a1_0, .int .i64 a1_1, .slice A1_2 l1_2.length c1_2] 27 (0, 0))) := ⟨h6_⟩
        have n7_ : Aside0 (w27.heap[gb650]? = some (.cells #[.int .i64 x651000_1, .int .i64 x651001_1, .int .i64 x651002_1, .slice none 0 0, .slice none 0 0] 30 (0, 0))) := ⟨h7_⟩
        have n8_ : Aside0 (w27.heap[gb661]? = some (.cells #[.int .i64 x662000_1, .int .i64 x662001_1, .int .i64 x662002_1, .slice Ao22 x662003_1.length co22, .slice Ao23 x662004_1.length co23] 30 (0, 0))) := ⟨h8_⟩
        have n9_ : Aside0 (w27.heap[gb676]? = some (.cells #[.int .i64 0, .int .i64 0, .int .i64 0, .slice none 0 0, .slice none 0 0] 30 (0, 0))) := ⟨h9_⟩
        have n10_ : Aside0 (w.heap.size ≤ gb676) := ⟨h10_⟩
        have n11_ : Aside0 (w.heap.size ≤ gb676) := ⟨h11_⟩
        have n12_ : Aside0 (gb649 ≠ gb676) := ⟨h12_⟩
        have n13_ : Aside0 (gb676 ≠ gb649) := ⟨h13_⟩
        have n14_ : Aside0 (gb650 ≠ gb676) := ⟨h14_⟩
        have n15_ : Aside0 (gb676 ≠ gb650) := ⟨h15_⟩
        have n16_ : Aside0 (gb661 ≠ gb676) := ⟨h16_⟩
        have n17_ : Aside0 (gb676 ≠ gb661) := ⟨h17_⟩
        have n18_ : Aside0 (Below w.heap.size w w27) := ⟨h18_⟩
        clear HO_12
        clear HO_662003
        clear HO_662004
        clear BK649
        clear BK650
        clear BK661
        clear HB
        clear h0_ h1_ h2_ h3_ h4_ h5_ h6_ h7_ h8_ h9_ h10_ h11_ h12_ h13_ h14_ h15_ h16_ h17_ h18_
        have HO668 := n0_
        have HO671 := n1_
        have HO674 := n2_
        have HO_12 := n3_
        have HO_662003 := n4_
        have HO_662004 := n5_
        have BK649 := n6_
        have BK650 := n7_
        have BK661 := n8_
        have BK676 := n9_
        have GW676 := n10_
        have GE676 := n11_
        have NB649_676 := n12_
        have NB676_649 := n13_
        have NB650_676 := n14_
        have NB676_650 := n15_
        have NB661_676 := n16_
        have NB676_661 := n17_
        have HB := n18_
        clear n0_ n1_ n2_ n3_ n4_ n5_ n6_ n7_ n8_ n9_ n10_ n11_ n12_ n13_ n14_ n15_ n16_ n17_ n18_
        have hHeld : w27.cell? ⟨gb661, 0, none⟩ = some (.int .i64 x662000_1) ∧ w27.cell? ⟨gb661, 1, none⟩ = some (.int .i64 x662001_1) ∧ w27.cell? ⟨gb661, 2, none⟩ = some (.int .i64 x662002_1) ∧ w27.cell? ⟨gb661, 3, none⟩ = some (.slice Ao22 x662003_1.length co22) ∧ w27.cell? ⟨gb661, 4, none⟩ = some (.slice Ao23 x662004_1.length co23) ∧ w27.cell? (ad662.add ((x13_1).toNat * 4)) = some (.int .i64 ((rd_T47 l2 x13_1).f0)) ∧ w27.cell? ⟨(ad662.add ((x13_1).toNat * 4)).block, (ad662.add ((x13_1).toNat * 4)).off + 1, none⟩ = some (.int .i64 ((rd_T47 l2 x13_1).f1)) ∧ w27.cell? ⟨(ad662.add ((x13_1).toNat * 4)).block, (ad662.add ((x13_1).toNat * 4)).off + 2, none⟩ = some (.int .i64 ((rd_T47 l2 x13_1).f2)) ∧ w27.cell? ⟨(ad662.add ((x13_1).toNat * 4)).block, (ad662.add ((x13_1).toNat * 4)).off + 3, none⟩ = some (.int .i64 ((rd_T47 l2 x13_1).f3)) := hS_
        obtain ⟨Ao31, co31, eo31⟩ := Kd.R_slice HO668.out
        (first | subst eo31 | (injection eo31 with f1_ f2_ f3_; have f4_ := f1_.symm; have f5_ := f3_.symm; clear f1_ f2_ f3_; subst f4_; subst f5_))
        obtain ⟨Ao33, co33, eo33⟩ := Kd.R_slice HO671.out
        (first | subst eo33 | (injection eo33 with f1_ f2_ f3_; have f4_ := f1_.symm; have f5_ := f3_.symm; clear f1_ f2_ f3_; subst f4_; subst f5_))
        refine norm_ (a' := ?_) ?_ ?_
        rotate_left
        ·simp only [putAll, Act.put, List.setIfInBounds_toArray, List.set_cons_zero, List.set_cons_succ]
         rfl
        refine one_ (i := 11) (N := none) #[true, true, true, true, true, true, true, true, true, true, true, true, false, false] rfl rfl (one_of HT_.out (by kernel_rfl)) (by decide) (fun K hK => ?_)
        have hs28 : w27.cell? ⟨gb676, 0, none⟩ = some (.int .i64 0) := (blk_cell BK676.out 0).trans rfl
        have hfs28 := blk_frozen BK676.out 0
        have hns28_0 := NB649_676.out
        have hns28_1 := NB650_676.out
        have hns28_2 := NB661_676.out
        have hms28_0 := NB676_649.out
        have hms28_1 := NB676_650.out
        have hms28_2 := NB676_661.out
        have hs29 : w27.cell? ⟨gb676, 1, none⟩ = some (.int .i64 0) := (blk_cell BK676.out 1).trans rfl
        have hfs29 := blk_frozen BK676.out 1
        have hns29_0 := NB649_676.out
        have hns29_1 := NB650_676.out
        have hns29_2 := NB661_676.out
        have hms29_0 := NB676_649.out
        have hms29_1 := NB676_650.out
        have hms29_2 := NB676_661.out
        have hs30 : w27.cell? ⟨gb676, 2, none⟩ = some (.int .i64 0) := (blk_cell BK676.out 2).trans rfl
        have hfs30 := blk_frozen BK676.out 2
        have hns30_0 := NB649_676.out
        have hns30_1 := NB650_676.out
        have hns30_2 := NB661_676.out
        have hms30_0 := NB676_649.out
        have hms30_1 := NB676_650.out
        have hms30_2 := NB676_661.out
        have hs32 : w27.cell? ⟨gb676, 3, none⟩ = some (.slice none 0 0) := (blk_cell BK676.out 3).trans rfl
        have hfs32 := blk_frozen BK676.out 3
        have hns32_0 := NB649_676.out
        have hns32_1 := NB650_676.out
        have hns32_2 := NB661_676.out
        have hms32_0 := NB676_649.out
        have hms32_1 := NB676_650.out
        have hms32_2 := NB676_661.out
        have hs34 : w27.cell? ⟨gb676, 4, none⟩ = some (.slice none 0 0) := (blk_cell BK676.out 4).trans rfl
        have hfs34 := blk_frozen BK676.out 4
        have hns34_0 := NB649_676.out
        have hns34_1 := NB650_676.out
        have hns34_2 := NB661_676.out
        have hms34_0 := NB676_649.out
        have hms34_1 := NB676_650.out
        have hms34_2 := NB676_661.out
        refine skip_ (w1 := ?_) (by rfl) rfl ?_ ?_
        rotate_left
        ·go_simp
         rfl
        refine hK.out _ _ ⟨((cell_far (p := ⟨gb676, _, none⟩) NB661_676.out _).trans (((cell_far (p := ⟨gb676, _, none⟩) NB661_676.out _).trans (((cell_far (p := ⟨gb676, _, none⟩) NB661_676.out _).trans (((cell_far (p := ⟨gb676, _, none⟩) NB661_676.out _).trans (((cell_far (p := ⟨gb676, _, none⟩) NB661_676.out _).trans (hHeld.1)))))))))), ((cell_far (p := ⟨gb676, _, none⟩) NB661_676.out _).trans (((cell_far (p := ⟨gb676, _, none⟩) NB661_676.out _).trans (((cell_far (p := ⟨gb676, _, none⟩) NB661_676.out _).trans (((cell_far (p := ⟨gb676, _, none⟩) NB661_676.out _).trans (((cell_far (p := ⟨gb676, _, none⟩) NB661_676.out _).trans (hHeld.2.1)))))))))), ((cell_far (p := ⟨gb676, _, none⟩) NB661_676.out _).trans (((cell_far (p := ⟨gb676, _, none⟩) NB661_676.out _).trans (((cell_far (p := ⟨gb676, _, none⟩) NB661_676.out _).trans (((cell_far (p := ⟨gb676, _, none⟩) NB661_676.out _).trans (((cell_far (p := ⟨gb676, _, none⟩) NB661_676.out _).trans (hHeld.2.2.1)))))))))), ((cell_far (p := ⟨gb676, _, none⟩) NB661_676.out _).trans (((cell_far (p := ⟨gb676, _, none⟩) NB661_676.out _).trans (((cell_far (p := ⟨gb676, _, none⟩) NB661_676.out _).trans (((cell_far (p := ⟨gb676, _, none⟩) NB661_676.out _).trans (((cell_far (p := ⟨gb676, _, none⟩) NB661_676.out _).trans (hHeld.2.2.2.1)))))))))), ((cell_far (p := ⟨gb676, _, none⟩) NB661_676.out _).trans (((cell_far (p := ⟨gb676, _, none⟩) NB661_676.out _).trans (((cell_far (p := ⟨gb676, _, none⟩) NB661_676.out _).trans (((cell_far (p := ⟨gb676, _, none⟩) NB661_676.out _).trans (((cell_far (p := ⟨gb676, _, none⟩) NB661_676.out _).trans (hHeld.2.2.2.2.1)))))))))), ((cell_far (p := ⟨gb676, _, none⟩) (by first | exact Nat.ne_of_lt (Nat.lt_of_lt_of_le (by have := World.block_lt_of_cell? _ _ hw662_0; first | rwa [add_block] at this | exact this) GW676.out) | (rw [add_block]; exact Nat.ne_of_lt (Nat.lt_of_lt_of_le (by have := World.block_lt_of_cell? _ _ hw662_0; first | rwa [add_block] at this | exact this) GW676.out)) | (show (Addr.add _ _).block ≠ _; rw [add_block]; exact Nat.ne_of_lt (Nat.lt_of_lt_of_le (by have := World.block_lt_of_cell? _ _ hw662_0; first | rwa [add_block] at this | exact this) GW676.out)) | (dsimp only; exact Nat.ne_of_lt (Nat.lt_of_lt_of_le (by have := World.block_lt_of_cell? _ _ hw662_0; first | rwa [add_block] at this | exact this) GW676.out))) _).trans (((cell_far (p := ⟨gb676, _, none⟩) (by first | exact Nat.ne_of_lt (Nat.lt_of_lt_of_le (by have := World.block_lt_of_cell? _ _ hw662_0; first | rwa [add_block] at this | exact this) GW676.out) | (rw [add_block]; exact Nat.ne_of_lt (Nat.lt_of_lt_of_le (by have := World.block_lt_of_cell? _ _ hw662_0; first | rwa [add_block] at this | exact this) GW676.out)) | (show (Addr.add _ _).block ≠ _; rw [add_block]; exact Nat.ne_of_lt (Nat.lt_of_lt_of_le (by have := World.block_lt_of_cell? _ _ hw662_0; first | rwa [add_block] at this | exact this) GW676.out)) | (dsimp only; exact Nat.ne_of_lt (Nat.lt_of_lt_of_le (by have := World.block_lt_of_cell? _ _ hw662_0; first | rwa [add_block] at this | exact this) GW676.out))) _).trans (((cell_far (p := ⟨gb676, _, none⟩) (by first | exact Nat.ne_of_lt (Nat.lt_of_lt_of_le (by have := World.block_lt_of_cell? _ _ hw662_0; first | rwa [add_block] at this | exact this) GW676.out) | (rw [add_block]; exact Nat.ne_of_lt (Nat.lt_of_lt_of_le (by have := World.block_lt_of_cell? _ _ hw662_0; first | rwa [add_block] at this | exact this) GW676.out)) | (show (Addr.add _ _).block ≠ _; rw [add_block]; exact Nat.ne_of_lt (Nat.lt_of_lt_of_le (by have := World.block_lt_of_cell? _ _ hw662_0; first | rwa [add_block] at this | exact this) GW676.out)) | (dsimp only; exact Nat.ne_of_lt (Nat.lt_of_lt_of_le (by have := World.block_lt_of_cell? _ _ hw662_0; first | rwa [add_block] at this | exact this) GW676.out))) _).trans (((cell_far (p := ⟨gb676, _, none⟩) (by first | exact Nat.ne_of_lt (Nat.lt_of_lt_of_le (by have := World.block_lt_of_cell? _ _ hw662_0; first | rwa [add_block] at this | exact this) GW676.out) | (rw [add_block]; exact Nat.ne_of_lt (Nat.lt_of_lt_of_le (by have := World.block_lt_of_cell? _ _ hw662_0; first | rwa [add_block] at this | exact this) GW676.out)) | (show (Addr.add _ _).block ≠ _; rw [add_block]; exact Nat.ne_of_lt (Nat.lt_of_lt_of_le (by have := World.block_lt_of_cell? _ _ hw662_0; first | rwa [add_block] at this | exact this) GW676.out)) | (dsimp only; exact Nat.ne_of_lt (Nat.lt_of_lt_of_le (by have := World.block_lt_of_cell? _ _ hw662_0; first | rwa [add_block] at this | exact this) GW676.out))) _).trans (((cell_far (p := ⟨gb676, _, none⟩) (by first | exact Nat.ne_of_lt (Nat.lt_of_lt_of_le (by have := World.block_lt_of_cell? _ _ hw662_0; first | rwa [add_block] at this | exact this) GW676.out) | (rw [add_block]; exact Nat.ne_of_lt (Nat.lt_of_lt_of_le (by have := World.block_lt_of_cell? _ _ hw662_0; first | rwa [add_block] at this | exact this) GW676.out)) | (show (Addr.add _ _).block ≠ _; rw [add_block]; exact Nat.ne_of_lt (Nat.lt_of_lt_of_le (by have := World.block_lt_of_cell? _ _ hw662_0; first | rwa [add_block] at this | exact this) GW676.out)) | (dsimp only; exact Nat.ne_of_lt (Nat.lt_of_lt_of_le (by have := World.block_lt_of_cell? _ _ hw662_0; first | rwa [add_block] at this | exact this) GW676.out))) _).trans (hHeld.2.2.2.2.2.1)))))))))), ((cell_far (p := ⟨gb676, _, none⟩) (by first | exact Nat.ne_of_lt (Nat.lt_of_lt_of_le (by have := World.block_lt_of_cell? _ _ hw662_1; first | rwa [add_block] at this | exact this) GW676.out) | (rw [add_block]; exact Nat.ne_of_lt (Nat.lt_of_lt_of_le (by have := World.block_lt_of_cell? _ _ hw662_1; first | rwa [add_block] at this | exact this) GW676.out)) | (show (Addr.add _ _).block ≠ _; rw [add_block]; exact Nat.ne_of_lt (Nat.lt_of_lt_of_le (by have := World.block_lt_of_cell? _ _ hw662_1; first | rwa [add_block] at this | exact this) GW676.out)) | (dsimp only; exact Nat.ne_of_lt (Nat.lt_of_lt_of_le (by have := World.block_lt_of_cell? _ _ hw662_1; first | rwa [add_block] at this | exact this) GW676.out))) _).trans (((cell_far (p := ⟨gb676, _, none⟩) (by first | exact Nat.ne_of_lt (Nat.lt_of_lt_of_le (by have := World.block_lt_of_cell? _ _ hw662_1; first | rwa [add_block] at this | exact this) GW676.out) | (rw [add_block]; exact Nat.ne_of_lt (Nat.lt_of_lt_of_le (by have := World.block_lt_of_cell? _ _ hw662_1; first | rwa [add_block] at this | exact this) GW676.out)) | (show (Addr.add _ _).block ≠ _; rw [add_block]; exact Nat.ne_of_lt (Nat.lt_of_lt_of_le (by have := World.block_lt_of_cell? _ _ hw662_1; first | rwa [add_block] at this | exact this) GW676.out)) | (dsimp only; exact Nat.ne_of_lt (Nat.lt_of_lt_of_le (by have := World.block_lt_of_cell? _ _ hw662_1; first | rwa [add_block] at this | exact this) GW676.out))) _).trans (((cell_far (p := ⟨gb676, _, none⟩) (by first | exact Nat.ne_of_lt (Nat.lt_of_lt_of_le (by have := World.block_lt_of_cell? _ _ hw662_1; first | rwa [add_block] at this | exact this) GW676.out) | (rw [add_block]; exact Nat.ne_of_lt (Nat.lt_of_lt_of_le (by have := World.block_lt_of_cell? _ _ hw662_1; first | rwa [add_block] at this | exact this) GW676.out)) | (show (Addr.add _ _).block ≠ _; rw [add_block]; exact Nat.ne_of_lt (Nat.lt_of_lt_of_le (by have := World.block_lt_of_cell? _ _ hw662_1; first | rwa [add_block] at this | exact this) GW676.out)) | (dsimp only; exact Nat.ne_of_lt (Nat.lt_of_lt_of_le (by have := World.block_lt_of_cell? _ _ hw662_1; first | rwa [add_block] at this | exact this) GW676.out))) _).trans (((cell_far (p := ⟨gb676, _, none⟩) (by first | exact Nat.ne_of_lt (Nat.lt_of_lt_of_le (by have := World.block_lt_of_cell? _ _ hw662_1; first | rwa [add_block] at this | exact this) GW676.out) | (rw [add_block]; exact Nat.ne_of_lt (Nat.lt_of_lt_of_le (by have := World.block_lt_of_cell? _ _ hw662_1; first | rwa [add_block] at this | exact this) GW676.out)) | (show (Addr.add _ _).block ≠ _; rw [add_block]; exact Nat.ne_of_lt (Nat.lt_of_lt_of_le (by have := World.block_lt_of_cell? _ _ hw662_1; first | rwa [add_block] at this | exact this) GW676.out)) | (dsimp only; exact Nat.ne_of_lt (Nat.lt_of_lt_of_le (by have := World.block_lt_of_cell? _ _ hw662_1; first | rwa [add_block] at this | exact this) GW676.out))) _).trans (((cell_far (p := ⟨gb676, _, none⟩) (by first | exact Nat.ne_of_lt (Nat.lt_of_lt_of_le (by have := World.block_lt_of_cell? _ _ hw662_1; first | rwa [add_block] at this | exact this) GW676.out) | (rw [add_block]; exact Nat.ne_of_lt (Nat.lt_of_lt_of_le (by have := World.block_lt_of_cell? _ _ hw662_1; first | rwa [add_block] at this | exact this) GW676.out)) | (show (Addr.add _ _).block ≠ _; rw [add_block]; exact Nat.ne_of_lt (Nat.lt_of_lt_of_le (by have := World.block_lt_of_cell? _ _ hw662_1; first | rwa [add_block] at this | exact this) GW676.out)) | (dsimp only; exact Nat.ne_of_lt (Nat.lt_of_lt_of_le (by have := World.block_lt_of_cell? _ _ hw662_1; first | rwa [add_block] at this | exact this) GW676.out))) _).trans (hHeld.2.2.2.2.2.2.1)))))))))), ((cell_far (p := ⟨gb676, _, none⟩) (by first | exact Nat.ne_of_lt (Nat.lt_of_lt_of_le (by have := World.block_lt_of_cell? _ _ hw662_2; first | rwa [add_block] at this | exact this) GW676.out) | (rw [add_block]; exact Nat.ne_of_lt (Nat.lt_of_lt_of_le (by have := World.block_lt_of_cell? _ _ hw662_2; first | rwa [add_block] at this | exact this) GW676.out)) | (show (Addr.add _ _).block ≠ _; rw [add_block]; exact Nat.ne_of_lt (Nat.lt_of_lt_of_le (by have := World.block_lt_of_cell? _ _ hw662_2; first | rwa [add_block] at this | exact this) GW676.out)) | (dsimp only; exact Nat.ne_of_lt (Nat.lt_of_lt_of_le (by have := World.block_lt_of_cell? _ _ hw662_2; first | rwa [add_block] at this | exact this) GW676.out))) _).trans (((cell_far (p := ⟨gb676, _, none⟩) (by first | exact Nat.ne_of_lt (Nat.lt_of_lt_of_le (by have := World.block_lt_of_cell? _ _ hw662_2; first | rwa [add_block] at this | exact this) GW676.out) | (rw [add_block]; exact Nat.ne_of_lt (Nat.lt_of_lt_of_le (by have := World.block_lt_of_cell? _ _ hw662_2; first | rwa [add_block] at this | exact this) GW676.out)) | (show (Addr.add _ _).block ≠ _; rw [add_block]; exact Nat.ne_of_lt (Nat.lt_of_lt_of_le (by have := World.block_lt_of_cell? _ _ hw662_2; first | rwa [add_block] at this | exact this) GW676.out)) | (dsimp only; exact Nat.ne_of_lt (Nat.lt_of_lt_of_le (by have := World.block_lt_of_cell? _ _ hw662_2; first | rwa [add_block] at this | exact this) GW676.out))) _).trans (((cell_far (p := ⟨gb676, _, none⟩) (by first | exact Nat.ne_of_lt (Nat.lt_of_lt_of_le (by have := World.block_lt_of_cell? _ _ hw662_2; first | rwa [add_block] at this | exact this) GW676.out) | (rw [add_block]; exact Nat.ne_of_lt (Nat.lt_of_lt_of_le (by have := World.block_lt_of_cell? _ _ hw662_2; first | rwa [add_block] at this | exact this) GW676.out)) | (show (Addr.add _ _).block ≠ _; rw [add_block]; exact Nat.ne_of_lt (Nat.lt_of_lt_of_le (by have := World.block_lt_of_cell? _ _ hw662_2; first | rwa [add_block] at this | exact this) GW676.out)) | (dsimp only; exact Nat.ne_of_lt (Nat.lt_of_lt_of_le (by have := World.block_lt_of_cell? _ _ hw662_2; first | rwa [add_block] at this | exact this) GW676.out))) _).trans (((cell_far (p := ⟨gb676, _, none⟩) (by first | exact Nat.ne_of_lt (Nat.lt_of_lt_of_le (by have := World.block_lt_of_cell? _ _ hw662_2; first | rwa [add_block] at this | exact this) GW676.out) | (rw [add_block]; exact Nat.ne_of_lt (Nat.lt_of_lt_of_le (by have := World.block_lt_of_cell? _ _ hw662_2; first | rwa [add_block] at this | exact this) GW676.out)) | (show (Addr.add _ _).block ≠ _; rw [add_block]; exact Nat.ne_of_lt (Nat.lt_of_lt_of_le (by have := World.block_lt_of_cell? _ _ hw662_2; first | rwa [add_block] at this | exact this) GW676.out)) | (dsimp only; exact Nat.ne_of_lt (Nat.lt_of_lt_of_le (by have := World.block_lt_of_cell? _ _ hw662_2; first | rwa [add_block] at this | exact this) GW676.out))) _).trans (((cell_far (p := ⟨gb676, _, none⟩) (by first | exact Nat.ne_of_lt (Nat.lt_of_lt_of_le (by have := World.block_lt_of_cell? _ _ hw662_2; first | rwa [add_block] at this | exact this) GW676.out) | (rw [add_block]; exact Nat.ne_of_lt (Nat.lt_of_lt_of_le (by have := World.block_lt_of_cell? _ _ hw662_2; first | rwa [add_block] at this | exact this) GW676.out)) | (show (Addr.add _ _).block ≠ _; rw [add_block]; exact Nat.ne_of_lt (Nat.lt_of_lt_of_le (by have := World.block_lt_of_cell? _ _ hw662_2; first | rwa [add_block] at this | exact this) GW676.out)) | (dsimp only; exact Nat.ne_of_lt (Nat.lt_of_lt_of_le (by have := World.block_lt_of_cell? _ _ hw662_2; first | rwa [add_block] at this | exact this) GW676.out))) _).trans (hHeld.2.2.2.2.2.2.2.1)))))))))), ((cell_far (p := ⟨gb676, _, none⟩) (by first | exact Nat.ne_of_lt (Nat.lt_of_lt_of_le (by have := World.block_lt_of_cell? _ _ hw662_3; first | rwa [add_block] at this | exact this) GW676.out) | (rw [add_block]; exact Nat.ne_of_lt (Nat.lt_of_lt_of_le (by have := World.block_lt_of_cell? _ _ hw662_3; first | rwa [add_block] at this | exact this) GW676.out)) | (show (Addr.add _ _).block ≠ _; rw [add_block]; exact Nat.ne_of_lt (Nat.lt_of_lt_of_le (by have := World.block_lt_of_cell? _ _ hw662_3; first | rwa [add_block] at this | exact this) GW676.out)) | (dsimp only; exact Nat.ne_of_lt (Nat.lt_of_lt_of_le (by have := World.block_lt_of_cell? _ _ hw662_3; first | rwa [add_block] at this | exact this) GW676.out))) _).trans (((cell_far (p := ⟨gb676, _, none⟩) (by first | exact Nat.ne_of_lt (Nat.lt_of_lt_of_le (by have := World.block_lt_of_cell? _ _ hw662_3; first | rwa [add_block] at this | exact this) GW676.out) | (rw [add_block]; exact Nat.ne_of_lt (Nat.lt_of_lt_of_le (by have := World.block_lt_of_cell? _ _ hw662_3; first | rwa [add_block] at this | exact this) GW676.out)) | (show (Addr.add _ _).block ≠ _; rw [add_block]; exact Nat.ne_of_lt (Nat.lt_of_lt_of_le (by have := World.block_lt_of_cell? _ _ hw662_3; first | rwa [add_block] at this | exact this) GW676.out)) | (dsimp only; exact Nat.ne_of_lt (Nat.lt_of_lt_of_le (by have := World.block_lt_of_cell? _ _ hw662_3; first | rwa [add_block] at this | exact this) GW676.out))) _).trans (((cell_far (p := ⟨gb676, _, none⟩) (by first | exact Nat.ne_of_lt (Nat.lt_of_lt_of_le (by have := World.block_lt_of_cell? _ _ hw662_3; first | rwa [add_block] at this | exact this) GW676.out) | (rw [add_block]; exact Nat.ne_of_lt (Nat.lt_of_lt_of_le (by have := World.block_lt_of_cell? _ _ hw662_3; first | rwa [add_block] at this | exact this) GW676.out)) | (show (Addr.add _ _).block ≠ _; rw [add_block]; exact Nat.ne_of_lt (Nat.lt_of_lt_of_le (by have := World.block_lt_of_cell? _ _ hw662_3; first | rwa [add_block] at this | exact this) GW676.out)) | (dsimp only; exact Nat.ne_of_lt (Nat.lt_of_lt_of_le (by have := World.block_lt_of_cell? _ _ hw662_3; first | rwa [add_block] at this | exact this) GW676.out))) _).trans (((cell_far (p := ⟨gb676, _, none⟩) (by first | exact Nat.ne_of_lt (Nat.lt_of_lt_of_le (by have := World.block_lt_of_cell? _ _ hw662_3; first | rwa [add_block] at this | exact this) GW676.out) | (rw [add_block]; exact Nat.ne_of_lt (Nat.lt_of_lt_of_le (by have := World.block_lt_of_cell? _ _ hw662_3; first | rwa [add_block] at this | exact this) GW676.out)) | (show (Addr.add _ _).block ≠ _; rw [add_block]; exact Nat.ne_of_lt (Nat.lt_of_lt_of_le (by have := World.block_lt_of_cell? _ _ hw662_3; first | rwa [add_block] at this | exact this) GW676.out)) | (dsimp only; exact Nat.ne_of_lt (Nat.lt_of_lt_of_le (by have := World.block_lt_of_cell? _ _ hw662_3; first | rwa [add_block] at this | exact this) GW676.out))) _).trans (((cell_far (p := ⟨gb676, _, none⟩) (by first | exact Nat.ne_of_lt (Nat.lt_of_lt_of_le (by have := World.block_lt_of_cell? _ _ hw662_3; first | rwa [add_block] at this | exact this) GW676.out) | (rw [add_block]; exact Nat.ne_of_lt (Nat.lt_of_lt_of_le (by have := World.block_lt_of_cell? _ _ hw662_3; first | rwa [add_block] at this | exact this) GW676.out)) | (show (Addr.add _ _).block ≠ _; rw [add_block]; exact Nat.ne_of_lt (Nat.lt_of_lt_of_le (by have := World.block_lt_of_cell? _ _ hw662_3; first | rwa [add_block] at this | exact this) GW676.out)) | (dsimp only; exact Nat.ne_of_lt (Nat.lt_of_lt_of_le (by have := World.block_lt_of_cell? _ _ hw662_3; first | rwa [add_block] at this | exact this) GW676.out))) _).trans (hHeld.2.2.2.2.2.2.2.2))))))))))⟩ (fun hHeld => ?_)
        clear hK K
        refine pure_ (i := 12) (N := some 15) (v := ?_) (a' := ?_) #[true, true, true, true, true, true, true, true, true, true, true, true, true, false] rfl rfl (any_of HT_.out (by kernel_rfl)) (fun _ _ _ h => h) (Or.inl ⟨by rfl, ?_⟩) ?_ ?_
        rotate_left
        ·intro w'
         go_simp
         with_reducible rfl
        rotate_left
        ·simp only [Act.put, List.setIfInBounds_toArray, List.set_cons_zero, List.set_cons_succ, i64_w, i32_w]
         rfl
        refine pure_ (i := 13) (N := some 16) (v := ?_) (a' := ?_) #[true, true, true, true, true, true, true, true, true, true, true, true, true, true] rfl rfl (any_of HT_.out (by kernel_rfl)) (fun _ _ _ h => h) (Or.inl ⟨by rfl, ?_⟩) ?_ ?_
        rotate_left
        ·intro w'
         go_simp
         with_reducible rfl
        rotate_left
        ·simp only [Act.put, List.setIfInBounds_toArray, List.set_cons_zero, List.set_cons_succ, i64_w, i32_w]
         rfl
        refine done_ (done_of HT_.out (by kernel_rfl)) ?_
        have hnb35 := NB676_649.out
        have hnc35 := NB649_676.out
        have hnb36 := NB676_650.out
        have hnc36 := NB650_676.out
        have hnb37 := NB676_661.out
        have hnc37 := NB661_676.out
        obtain ⟨hcz38_0, hcz38_1, hcz38_2, hcz38_3, hcz38_4⟩ := cells5 BK676
        obtain ⟨hfz38_0, hfz38_1, hfz38_2, hfz38_3, hfz38_4⟩ := frz5 BK676
        have hnb39 := NB661_649.out
        have hnc39 := NB649_661.out
        have hnb40 := NB661_650.out
        have hnc40 := NB650_661.out
        obtain ⟨hcz41_0, hcz41_1, hcz41_2, hcz41_3, hcz41_4⟩ := cells5 BK661
        obtain ⟨hfz41_0, hfz41_1, hfz41_2, hfz41_3, hfz41_4⟩ := frz5 BK661
        obtain ⟨Ao43, co43, eo43⟩ := Kd.R_slice HO674.out
        subst eo43
        try go_wp2_with (first | ((with_reducible refine gate_builtin (b := .append) (xs := #[.tmp 49, .tmp 50]) rfl ?_); at_builtin; refine Kd.R_append_rows k52 (w0 := w) w.heap.size rfl (.tmp 49) (.tmp 50) 32 52 (.agg #[(.int .i64 0), (.int .i64 0), (.int .i64 0)]) 24 rfl Try.underlying32 info52 rfl (by decide) (by omega) u12 x12_1 t672 _ _ _ (fun k_ => some k_ ≠ (.slice Ao43 t672.length co43 : Value).ownBlock) (fun _ => False) rfl rfl ?aO ?aR (fun _ _ h => h) (fun _ h => h.elim) ?aF ?aB ?aS ?aL ?_; (case aR => refine (Kd.R_reads' (e := 52) (base := w.heap.size) (ok := fun k_ => some k_ ≠ (u12 : Value).ownBlock) (n := t672.length) (c := co43) ?_).2.2; exact (by (with_reducible repeat (first | apply Kd.R_alloc | apply Kd.R_drewN | apply Kd.R_drew)); exact (Kd.R_mono (Kd.R_mono (Kd.R_far (p := ⟨gb661, 4, none⟩) (Kd.R_far (p := ⟨gb661, 3, none⟩) (Kd.R_far (p := ⟨gb661, 2, none⟩) (Kd.R_far (p := ⟨gb661, 1, none⟩) (Kd.R_far (p := ⟨gb661, 0, none⟩) (Kd.R_far (p := ⟨gb676, 4, none⟩) (Kd.R_far (p := ⟨gb676, 3, none⟩) (Kd.R_far (p := ⟨gb676, 2, none⟩) (Kd.R_far (p := ⟨gb676, 1, none⟩) (Kd.R_far (p := ⟨gb676, 0, none⟩) (Kd.R_types (Kd.R_types HO674.out BK676.out (by decide)) BK661.out (by decide)) (fun _ hk => hk.1.2) (.int .i64 t663)) (fun _ hk => hk.1.2) (.int .i64 t664)) (fun _ hk => hk.1.2) (.int .i64 t665)) (fun _ hk => hk.1.2) (.slice Ao31 t666.length co31)) (fun _ hk => hk.1.2) (.slice Ao33 t669.length co33)) (fun _ hk => hk.2) (.int .i64 t663)) (fun _ hk => hk.2) (.int .i64 t664)) (fun _ hk => hk.2) (.int .i64 t665)) (fun _ hk => hk.2) (.slice Ao31 t666.length co31)) (fun _ hk => hk.2) (.slice Ao33 t669.length co33)) (fun _ h_ => h_.1)) (fun _ h_ => h_.1)))); (case aB => exact (pB HB)); (case aF => exact (fun k_ hk => Kd.fresh' (Kd.R_lt (by (with_reducible repeat (first | apply Kd.R_alloc | apply Kd.R_drewN | apply Kd.R_drew)); exact (Kd.R_mono (Kd.R_mono (Kd.R_far (p := ⟨gb661, 4, none⟩) (Kd.R_far (p := ⟨gb661, 3, none⟩) (Kd.R_far (p := ⟨gb661, 2, none⟩) (Kd.R_far (p := ⟨gb661, 1, none⟩) (Kd.R_far (p := ⟨gb661, 0, none⟩) (Kd.R_far (p := ⟨gb676, 4, none⟩) (Kd.R_far (p := ⟨gb676, 3, none⟩) (Kd.R_far (p := ⟨gb676, 2, none⟩) (Kd.R_far (p := ⟨gb676, 1, none⟩) (Kd.R_far (p := ⟨gb676, 0, none⟩) (Kd.R_types (Kd.R_types HO674.out BK676.out (by decide)) BK661.out (by decide)) (fun _ hk => hk.1.2) (.int .i64 t663)) (fun _ hk => hk.1.2) (.int .i64 t664)) (fun _ hk => hk.1.2) (.int .i64 t665)) (fun _ hk => hk.1.2) (.slice Ao31 t666.length co31)) (fun _ hk => hk.1.2) (.slice Ao33 t669.length co33)) (fun _ hk => hk.2) (.int .i64 t663)) (fun _ hk => hk.2) (.int .i64 t664)) (fun _ hk => hk.2) (.int .i64 t665)) (fun _ hk => hk.2) (.slice Ao31 t666.length co31)) (fun _ hk => hk.2) (.slice Ao33 t669.length co33)) (fun _ h_ => h_.1)) (fun _ h_ => h_.1)))) k_ hk)); (case aO => exact (by (with_reducible repeat (first | apply Kd.R_alloc | apply Kd.R_drewN | apply Kd.R_drew)); exact Kd.R_mono (Kd.R_far (p := ⟨gb661, 4, none⟩) (Kd.R_far (p := ⟨gb661, 3, none⟩) (Kd.R_far (p := ⟨gb661, 2, none⟩) (Kd.R_far (p := ⟨gb661, 1, none⟩) (Kd.R_far (p := ⟨gb661, 0, none⟩) (Kd.R_far (p := ⟨gb676, 4, none⟩) (Kd.R_far (p := ⟨gb676, 3, none⟩) (Kd.R_far (p := ⟨gb676, 2, none⟩) (Kd.R_far (p := ⟨gb676, 1, none⟩) (Kd.R_far (p := ⟨gb676, 0, none⟩) (Kd.R_types (Kd.R_types HO_12.out BK676.out (by decide)) BK661.out (by decide)) (fun _ hk => hk.1.2) (.int .i64 t663)) (fun _ hk => hk.1.2) (.int .i64 t664)) (fun _ hk => hk.1.2) (.int .i64 t665)) (fun _ hk => hk.1.2) (.slice Ao31 t666.length co31)) (fun _ hk => hk.1.2) (.slice Ao33 t669.length co33)) (fun _ hk => hk.2) (.int .i64 t663)) (fun _ hk => hk.2) (.int .i64 t664)) (fun _ hk => hk.2) (.int .i64 t665)) (fun _ hk => hk.2) (.slice Ao31 t666.length co31)) (fun _ hk => hk.2) (.slice Ao33 t669.length co33)) (fun _ hk => hk.1.1))); (case aS => exact (below_size (pB HB))); (case aL => have := LMc21.out; omega); intro v678 w42 ho hb hg hat; rw [← Ny677.out] at ho; have n0_ := Aside0.mk (Kd.R_over' (by (with_reducible repeat (first | apply Kd.R_alloc | apply Kd.R_drewN | apply Kd.R_drew)); exact (Kd.R_mono (Kd.R_mono (Kd.R_far (p := ⟨gb661, 4, none⟩) (Kd.R_far (p := ⟨gb661, 3, none⟩) (Kd.R_far (p := ⟨gb661, 2, none⟩) (Kd.R_far (p := ⟨gb661, 1, none⟩) (Kd.R_far (p := ⟨gb661, 0, none⟩) (Kd.R_far (p := ⟨gb676, 4, none⟩) (Kd.R_far (p := ⟨gb676, 3, none⟩) (Kd.R_far (p := ⟨gb676, 2, none⟩) (Kd.R_far (p := ⟨gb676, 1, none⟩) (Kd.R_far (p := ⟨gb676, 0, none⟩) (Kd.R_types (Kd.R_types HO_662003.out BK676.out (by decide)) BK661.out (by decide)) (fun _ hk => hk.1.2) (.int .i64 t663)) (fun _ hk => hk.1.2) (.int .i64 t664)) (fun _ hk => hk.1.2) (.int .i64 t665)) (fun _ hk => hk.1.2) (.slice Ao31 t666.length co31)) (fun _ hk => hk.1.2) (.slice Ao33 t669.length co33)) (fun _ hk => hk.2) (.int .i64 t663)) (fun _ hk => hk.2) (.int .i64 t664)) (fun _ hk => hk.2) (.int .i64 t665)) (fun _ hk => hk.2) (.slice Ao31 t666.length co31)) (fun _ hk => hk.2) (.slice Ao33 t669.length co33)) (fun _ h_ => h_.1)) (fun _ h_ => h_.1))) (Kd.R_typed (by (with_reducible repeat (first | apply Kd.R_alloc | apply Kd.R_drewN | apply Kd.R_drew)); exact (Kd.R_mono (Kd.R_mono (Kd.R_far (p := ⟨gb661, 4, none⟩) (Kd.R_far (p := ⟨gb661, 3, none⟩) (Kd.R_far (p := ⟨gb661, 2, none⟩) (Kd.R_far (p := ⟨gb661, 1, none⟩) (Kd.R_far (p := ⟨gb661, 0, none⟩) (Kd.R_far (p := ⟨gb676, 4, none⟩) (Kd.R_far (p := ⟨gb676, 3, none⟩) (Kd.R_far (p := ⟨gb676, 2, none⟩) (Kd.R_far (p := ⟨gb676, 1, none⟩) (Kd.R_far (p := ⟨gb676, 0, none⟩) (Kd.R_types (Kd.R_types HO_12.out BK676.out (by decide)) BK661.out (by decide)) (fun _ hk => hk.1.2) (.int .i64 t663)) (fun _ hk => hk.1.2) (.int .i64 t664)) (fun _ hk => hk.1.2) (.int .i64 t665)) (fun _ hk => hk.1.2) (.slice Ao31 t666.length co31)) (fun _ hk => hk.1.2) (.slice Ao33 t669.length co33)) (fun _ hk => hk.2) (.int .i64 t663)) (fun _ hk => hk.2) (.int .i64 t664)) (fun _ hk => hk.2) (.int .i64 t665)) (fun _ hk => hk.2) (.slice Ao31 t666.length co31)) (fun _ hk => hk.2) (.slice Ao33 t669.length co33)) (fun _ h_ => h_.1)) (fun _ h_ => h_.1)))) (by decide) hg); have n1_ := Aside0.mk (Kd.R_over' (by (with_reducible repeat (first | apply Kd.R_alloc | apply Kd.R_drewN | apply Kd.R_drew)); exact (Kd.R_mono (Kd.R_mono (Kd.R_far (p := ⟨gb661, 4, none⟩) (Kd.R_far (p := ⟨gb661, 3, none⟩) (Kd.R_far (p := ⟨gb661, 2, none⟩) (Kd.R_far (p := ⟨gb661, 1, none⟩) (Kd.R_far (p := ⟨gb661, 0, none⟩) (Kd.R_far (p := ⟨gb676, 4, none⟩) (Kd.R_far (p := ⟨gb676, 3, none⟩) (Kd.R_far (p := ⟨gb676, 2, none⟩) (Kd.R_far (p := ⟨gb676, 1, none⟩) (Kd.R_far (p := ⟨gb676, 0, none⟩) (Kd.R_types (Kd.R_types HO_662004.out BK676.out (by decide)) BK661.out (by decide)) (fun _ hk => hk.1.2) (.int .i64 t663)) (fun _ hk => hk.1.2) (.int .i64 t664)) (fun _ hk => hk.1.2) (.int .i64 t665)) (fun _ hk => hk.1.2) (.slice Ao31 t666.length co31)) (fun _ hk => hk.1.2) (.slice Ao33 t669.length co33)) (fun _ hk => hk.2) (.int .i64 t663)) (fun _ hk => hk.2) (.int .i64 t664)) (fun _ hk => hk.2) (.int .i64 t665)) (fun _ hk => hk.2) (.slice Ao31 t666.length co31)) (fun _ hk => hk.2) (.slice Ao33 t669.length co33)) (fun _ h_ => h_.1)) (fun _ h_ => h_.1))) (Kd.R_typed (by (with_reducible repeat (first | apply Kd.R_alloc | apply Kd.R_drewN | apply Kd.R_drew)); exact (Kd.R_mono (Kd.R_mono (Kd.R_far (p := ⟨gb661, 4, none⟩) (Kd.R_far (p := ⟨gb661, 3, none⟩) (Kd.R_far (p := ⟨gb661, 2, none⟩) (Kd.R_far (p := ⟨gb661, 1, none⟩) (Kd.R_far (p := ⟨gb661, 0, none⟩) (Kd.R_far (p := ⟨gb676, 4, none⟩) (Kd.R_far (p := ⟨gb676, 3, none⟩) (Kd.R_far (p := ⟨gb676, 2, none⟩) (Kd.R_far (p := ⟨gb676, 1, none⟩) (Kd.R_far (p := ⟨gb676, 0, none⟩) (Kd.R_types (Kd.R_types HO_12.out BK676.out (by decide)) BK661.out (by decide)) (fun _ hk => hk.1.2) (.int .i64 t663)) (fun _ hk => hk.1.2) (.int .i64 t664)) (fun _ hk => hk.1.2) (.int .i64 t665)) (fun _ hk => hk.1.2) (.slice Ao31 t666.length co31)) (fun _ hk => hk.1.2) (.slice Ao33 t669.length co33)) (fun _ hk => hk.2) (.int .i64 t663)) (fun _ hk => hk.2) (.int .i64 t664)) (fun _ hk => hk.2) (.int .i64 t665)) (fun _ hk => hk.2) (.slice Ao31 t666.length co31)) (fun _ hk => hk.2) (.slice Ao33 t669.length co33)) (fun _ h_ => h_.1)) (fun _ h_ => h_.1)))) (by decide) hg); have n2_ := Aside0.mk (blk_grown (g := gb649) (o := .cells #[.int .i64 a1_0, .int .i64 a1_1, .slice A1_2 l1_2.length c1_2] 27 (0, 0)) (by (with_reducible repeat (first | refine blk_drewN ?_ _ | refine blk_drew ?_ | refine blk_alloc ?_ _)); refine blk_far ?_ NB649_661.out _; (with_reducible repeat (first | refine blk_drewN ?_ _ | refine blk_drew ?_ | refine blk_alloc ?_ _)); refine blk_far ?_ NB649_661.out _; (with_reducible repeat (first | refine blk_drewN ?_ _ | refine blk_drew ?_ | refine blk_alloc ?_ _)); refine blk_far ?_ NB649_661.out _; (with_reducible repeat (first | refine blk_drewN ?_ _ | refine blk_drew ?_ | refine blk_alloc ?_ _)); refine blk_far ?_ NB649_661.out _; (with_reducible repeat (first | refine blk_drewN ?_ _ | refine blk_drew ?_ | refine blk_alloc ?_ _)); refine blk_far ?_ NB649_661.out _; (with_reducible repeat (first | refine blk_drewN ?_ _ | refine blk_drew ?_ | refine blk_alloc ?_ _)); refine blk_far ?_ NB649_676.out _; (with_reducible repeat (first | refine blk_drewN ?_ _ | refine blk_drew ?_ | refine blk_alloc ?_ _)); refine blk_far ?_ NB649_676.out _; (with_reducible repeat (first | refine blk_drewN ?_ _ | refine blk_drew ?_ | refine blk_alloc ?_ _)); refine blk_far ?_ NB649_676.out _; (with_reducible repeat (first | refine blk_drewN ?_ _ | refine blk_drew ?_ | refine blk_alloc ?_ _)); refine blk_far ?_ NB649_676.out _; (with_reducible repeat (first | refine blk_drewN ?_ _ | refine blk_drew ?_ | refine blk_alloc ?_ _)); refine blk_far ?_ NB649_676.out _; (with_reducible repeat (first | refine blk_drewN ?_ _ | refine blk_drew ?_ | refine blk_alloc ?_ _)); exact BK649.out) hg (Kd.R_ne HO_12.out BK649.out (by decide))); have n3_ := Aside0.mk (blk_grown (g := gb650) (o := .cells #[.int .i64 x651000_1, .int .i64 x651001_1, .int .i64 x651002_1, .slice none 0 0, .slice none 0 0] 30 (0, 0)) (by (with_reducible repeat (first | refine blk_drewN ?_ _ | refine blk_drew ?_ | refine blk_alloc ?_ _)); refine blk_far ?_ NB650_661.out _; (with_reducible repeat (first | refine blk_drewN ?_ _ | refine blk_drew ?_ | refine blk_alloc ?_ _)); refine blk_far ?_ NB650_661.out _; (with_reducible repeat (first | refine blk_drewN ?_ _ | refine blk_drew ?_ | refine blk_alloc ?_ _)); refine blk_far ?_ NB650_661.out _; (with_reducible repeat (first | refine blk_drewN ?_ _ | refine blk_drew ?_ | refine blk_alloc ?_ _)); refine blk_far ?_ NB650_661.out _; (with_reducible repeat (first | refine blk_drewN ?_ _ | refine blk_drew ?_ | refine blk_alloc ?_ _)); refine blk_far ?_ NB650_661.out _; (with_reducible repeat (first | refine blk_drewN ?_ _ | refine blk_drew ?_ | refine blk_alloc ?_ _)); refine blk_far ?_ NB650_676.out _; (with_reducible repeat (first | refine blk_drewN ?_ _ | refine blk_drew ?_ | refine blk_alloc ?_ _)); refine blk_far ?_ NB650_676.out _; (with_reducible repeat (first | refine blk_drewN ?_ _ | refine blk_drew ?_ | refine blk_alloc ?_ _)); refine blk_far ?_ NB650_676.out _; (with_reducible repeat (first | refine blk_drewN ?_ _ | refine blk_drew ?_ | refine blk_alloc ?_ _)); refine blk_far ?_ NB650_676.out _; (with_reducible repeat (first | refine blk_drewN ?_ _ | refine blk_drew ?_ | refine blk_alloc ?_ _)); refine blk_far ?_ NB650_676.out _; (with_reducible repeat (first | refine blk_drewN ?_ _ | refine blk_drew ?_ | refine blk_alloc ?_ _)); exact BK650.out) hg (Kd.R_ne HO_12.out BK650.out (by decide))); have n4_ := Aside0.mk (blk_grown (g := gb661) (o := .cells #[.int .i64 t663, .int .i64 t664, .int .i64 t665, .slice Ao31 t666.length co31, .slice Ao33 t669.length co33] 30 (0, 0)) (by (with_reducible repeat (first | refine blk_drewN ?_ _ | refine blk_drew ?_ | refine blk_alloc ?_ _)); refine blk_put (cs := #[.int .i64 t663, .int .i64 t664, .int .i64 t665, .slice Ao31 t666.length co31, .slice Ao23 x662004_1.length co23]) ?_ 4 _ rfl; (with_reducible repeat (first | refine blk_drewN ?_ _ | refine blk_drew ?_ | refine blk_alloc ?_ _)); refine blk_put (cs := #[.int .i64 t663, .int .i64 t664, .int .i64 t665, .slice Ao22 x662003_1.length co22, .slice Ao23 x662004_1.length co23]) ?_ 3 _ rfl; (with_reducible repeat (first | refine blk_drewN ?_ _ | refine blk_drew ?_ | refine blk_alloc ?_ _)); refine blk_put (cs := #[.int .i64 t663, .int .i64 t664, .int .i64 x662002_1, .slice Ao22 x662003_1.length co22, .slice Ao23 x662004_1.length co23]) ?_ 2 _ rfl; (with_reducible repeat (first | refine blk_drewN ?_ _ | refine blk_drew ?_ | refine blk_alloc ?_ _)); refine blk_put (cs := #[.int .i64 t663, .int .i64 x662001_1, .int .i64 x662002_1, .slice Ao22 x662003_1.length co22, .slice Ao23 x662004_1.length co23]) ?_ 1 _ rfl; (with_reducible repeat (first | refine blk_drewN ?_ _ | refine blk_drew ?_ | refine blk_alloc ?_ _)); refine blk_put (cs := #[.int .i64 x662000_1, .int .i64 x662001_1, .int .i64 x662002_1, .slice Ao22 x662003_1.length co22, .slice Ao23 x662004_1.length co23]) ?_ 0 _ rfl; (with_reducible repeat (first | refine blk_drewN ?_ _ | refine blk_drew ?_ | refine blk_alloc ?_ _)); refine blk_far ?_ NB661_676.out _; (with_reducible repeat (first | refine blk_drewN ?_ _ | refine blk_drew ?_ | refine blk_alloc ?_ _)); refine blk_far ?_ NB661_676.out _; (with_reducible repeat (first | refine blk_drewN ?_ _ | refine blk_drew ?_ | refine blk_alloc ?_ _)); refine blk_far ?_ NB661_676.out _; (with_reducible repeat (first | refine blk_drewN ?_ _ | refine blk_drew ?_ | refine blk_alloc ?_ _)); refine blk_far ?_ NB661_676.out _; (with_reducible repeat (first | refine blk_drewN ?_ _ | refine blk_drew ?_ | refine blk_alloc ?_ _)); refine blk_far ?_ NB661_676.out _; (with_reducible repeat (first | refine blk_drewN ?_ _ | refine blk_drew ?_ | refine blk_alloc ?_ _)); exact BK661.out) hg (Kd.R_ne HO_12.out BK661.out (by decide))); have n5_ := Aside0.mk (Kd.R_over' (by (with_reducible repeat (first | apply Kd.R_alloc | apply Kd.R_drewN | apply Kd.R_drew)); exact (Kd.R_mono (Kd.R_mono (Kd.R_far (p := ⟨gb661, 4, none⟩) (Kd.R_far (p := ⟨gb661, 3, none⟩) (Kd.R_far (p := ⟨gb661, 2, none⟩) (Kd.R_far (p := ⟨gb661, 1, none⟩) (Kd.R_far (p := ⟨gb661, 0, none⟩) (Kd.R_far (p := ⟨gb676, 4, none⟩) (Kd.R_far (p := ⟨gb676, 3, none⟩) (Kd.R_far (p := ⟨gb676, 2, none⟩) (Kd.R_far (p := ⟨gb676, 1, none⟩) (Kd.R_far (p := ⟨gb676, 0, none⟩) (Kd.R_types (Kd.R_types HO668.out BK676.out (by decide)) BK661.out (by decide)) (fun _ hk => hk.1.2) (.int .i64 t663)) (fun _ hk => hk.1.2) (.int .i64 t664)) (fun _ hk => hk.1.2) (.int .i64 t665)) (fun _ hk => hk.1.2) (.slice Ao31 t666.length co31)) (fun _ hk => hk.1.2) (.slice Ao33 t669.length co33)) (fun _ hk => hk.2) (.int .i64 t663)) (fun _ hk => hk.2) (.int .i64 t664)) (fun _ hk => hk.2) (.int .i64 t665)) (fun _ hk => hk.2) (.slice Ao31 t666.length co31)) (fun _ hk => hk.2) (.slice Ao33 t669.length co33)) (fun _ h_ => h_.1)) (fun _ h_ => h_.1))) (Kd.R_typed (by (with_reducible repeat (first | apply Kd.R_alloc | apply Kd.R_drewN | apply Kd.R_drew)); exact (Kd.R_mono (Kd.R_mono (Kd.R_far (p := ⟨gb661, 4, none⟩) (Kd.R_far (p := ⟨gb661, 3, none⟩) (Kd.R_far (p := ⟨gb661, 2, none⟩) (Kd.R_far (p := ⟨gb661, 1, none⟩) (Kd.R_far (p := ⟨gb661, 0, none⟩) (Kd.R_far (p := ⟨gb676, 4, none⟩) (Kd.R_far (p := ⟨gb676, 3, none⟩) (Kd.R_far (p := ⟨gb676, 2, none⟩) (Kd.R_far (p := ⟨gb676, 1, none⟩) (Kd.R_far (p := ⟨gb676, 0, none⟩) (Kd.R_types (Kd.R_types HO_12.out BK676.out (by decide)) BK661.out (by decide)) (fun _ hk => hk.1.2) (.int .i64 t663)) (fun _ hk => hk.1.2) (.int .i64 t664)) (fun _ hk => hk.1.2) (.int .i64 t665)) (fun _ hk => hk.1.2) (.slice Ao31 t666.length co31)) (fun _ hk => hk.1.2) (.slice Ao33 t669.length co33)) (fun _ hk => hk.2) (.int .i64 t663)) (fun _ hk => hk.2) (.int .i64 t664)) (fun _ hk => hk.2) (.int .i64 t665)) (fun _ hk => hk.2) (.slice Ao31 t666.length co31)) (fun _ hk => hk.2) (.slice Ao33 t669.length co33)) (fun _ h_ => h_.1)) (fun _ h_ => h_.1)))) (by decide) hg); have n6_ := Aside0.mk (Kd.R_over' (by (with_reducible repeat (first | apply Kd.R_alloc | apply Kd.R_drewN | apply Kd.R_drew)); exact (Kd.R_mono (Kd.R_mono (Kd.R_far (p := ⟨gb661, 4, none⟩) (Kd.R_far (p := ⟨gb661, 3, none⟩) (Kd.R_far (p := ⟨gb661, 2, none⟩) (Kd.R_far (p := ⟨gb661, 1, none⟩) (Kd.R_far (p := ⟨gb661, 0, none⟩) (Kd.R_far (p := ⟨gb676, 4, none⟩) (Kd.R_far (p := ⟨gb676, 3, none⟩) (Kd.R_far (p := ⟨gb676, 2, none⟩) (Kd.R_far (p := ⟨gb676, 1, none⟩) (Kd.R_far (p := ⟨gb676, 0, none⟩) (Kd.R_types (Kd.R_types HO671.out BK676.out (by decide)) BK661.out (by decide)) (fun _ hk => hk.1.2) (.int .i64 t663)) (fun _ hk => hk.1.2) (.int .i64 t664)) (fun _ hk => hk.1.2) (.int .i64 t665)) (fun _ hk => hk.1.2) (.slice Ao31 t666.length co31)) (fun _ hk => hk.1.2) (.slice Ao33 t669.length co33)) (fun _ hk => hk.2) (.int .i64 t663)) (fun _ hk => hk.2) (.int .i64 t664)) (fun _ hk => hk.2) (.int .i64 t665)) (fun _ hk => hk.2) (.slice Ao31 t666.length co31)) (fun _ hk => hk.2) (.slice Ao33 t669.length co33)) (fun _ h_ => h_.1)) (fun _ h_ => h_.1))) (Kd.R_typed (by (with_reducible repeat (first | apply Kd.R_alloc | apply Kd.R_drewN | apply Kd.R_drew)); exact (Kd.R_mono (Kd.R_mono (Kd.R_far (p := ⟨gb661, 4, none⟩) (Kd.R_far (p := ⟨gb661, 3, none⟩) (Kd.R_far (p := ⟨gb661, 2, none⟩) (Kd.R_far (p := ⟨gb661, 1, none⟩) (Kd.R_far (p := ⟨gb661, 0, none⟩) (Kd.R_far (p := ⟨gb676, 4, none⟩) (Kd.R_far (p := ⟨gb676, 3, none⟩) (Kd.R_far (p := ⟨gb676, 2, none⟩) (Kd.R_far (p := ⟨gb676, 1, none⟩) (Kd.R_far (p := ⟨gb676, 0, none⟩) (Kd.R_types (Kd.R_types HO_12.out BK676.out (by decide)) BK661.out (by decide)) (fun _ hk => hk.1.2) (.int .i64 t663)) (fun _ hk => hk.1.2) (.int .i64 t664)) (fun _ hk => hk.1.2) (.int .i64 t665)) (fun _ hk => hk.1.2) (.slice Ao31 t666.length co31)) (fun _ hk => hk.1.2) (.slice Ao33 t669.length co33)) (fun _ hk => hk.2) (.int .i64 t663)) (fun _ hk => hk.2) (.int .i64 t664)) (fun _ hk => hk.2) (.int .i64 t665)) (fun _ hk => hk.2) (.slice Ao31 t666.length co31)) (fun _ hk => hk.2) (.slice Ao33 t669.length co33)) (fun _ h_ => h_.1)) (fun _ h_ => h_.1)))) (by decide) hg); have n7_ := Aside0.mk (Kd.R_after (ok := (fun _ => True)) (by (with_reducible repeat (first | apply Kd.R_alloc | apply Kd.R_drewN | apply Kd.R_drew)); exact Kd.R_mono (Kd.R_far (p := ⟨gb661, 4, none⟩) (Kd.R_far (p := ⟨gb661, 3, none⟩) (Kd.R_far (p := ⟨gb661, 2, none⟩) (Kd.R_far (p := ⟨gb661, 1, none⟩) (Kd.R_far (p := ⟨gb661, 0, none⟩) (Kd.R_far (p := ⟨gb676, 4, none⟩) (Kd.R_far (p := ⟨gb676, 3, none⟩) (Kd.R_far (p := ⟨gb676, 2, none⟩) (Kd.R_far (p := ⟨gb676, 1, none⟩) (Kd.R_far (p := ⟨gb676, 0, none⟩) (Kd.R_types (Kd.R_types HO674.out BK676.out (by decide)) BK661.out (by decide)) (fun _ hk => hk.1.2) (.int .i64 t663)) (fun _ hk => hk.1.2) (.int .i64 t664)) (fun _ hk => hk.1.2) (.int .i64 t665)) (fun _ hk => hk.1.2) (.slice Ao31 t666.length co31)) (fun _ hk => hk.1.2) (.slice Ao33 t669.length co33)) (fun _ hk => hk.2) (.int .i64 t663)) (fun _ hk => hk.2) (.int .i64 t664)) (fun _ hk => hk.2) (.int .i64 t665)) (fun _ hk => hk.2) (.slice Ao31 t666.length co31)) (fun _ hk => hk.2) (.slice Ao33 t669.length co33)) (fun _ hk => ⟨trivial, hk.1.1⟩)) hg hat); have n8_ := Aside0.mk (blk_grown (g := gb676) (o := .cells #[.int .i64 t663, .int .i64 t664, .int .i64 t665, .slice Ao31 t666.length co31, .slice Ao33 t669.length co33] 30 (0, 0)) (by (with_reducible repeat (first | refine blk_drewN ?_ _ | refine blk_drew ?_ | refine blk_alloc ?_ _)); refine blk_far ?_ NB676_661.out _; (with_reducible repeat (first | refine blk_drewN ?_ _ | refine blk_drew ?_ | refine blk_alloc ?_ _)); refine blk_far ?_ NB676_661.out _; (with_reducible repeat (first | refine blk_drewN ?_ _ | refine blk_drew ?_ | refine blk_alloc ?_ _)); refine blk_far ?_ NB676_661.out _; (with_reducible repeat (first | refine blk_drewN ?_ _ | refine blk_drew ?_ | refine blk_alloc ?_ _)); refine blk_far ?_ NB676_661.out _; (with_reducible repeat (first | refine blk_drewN ?_ _ | refine blk_drew ?_ | refine blk_alloc ?_ _)); refine blk_far ?_ NB676_661.out _; (with_reducible repeat (first | refine blk_drewN ?_ _ | refine blk_drew ?_ | refine blk_alloc ?_ _)); refine blk_put (cs := #[.int .i64 t663, .int .i64 t664, .int .i64 t665, .slice Ao31 t666.length co31, .slice none 0 0]) ?_ 4 _ rfl; (with_reducible repeat (first | refine blk_drewN ?_ _ | refine blk_drew ?_ | refine blk_alloc ?_ _)); refine blk_put (cs := #[.int .i64 t663, .int .i64 t664, .int .i64 t665, .slice none 0 0, .slice none 0 0]) ?_ 3 _ rfl; (with_reducible repeat (first | refine blk_drewN ?_ _ | refine blk_drew ?_ | refine blk_alloc ?_ _)); refine blk_put (cs := #[.int .i64 t663, .int .i64 t664, .int .i64 0, .slice none 0 0, .slice none 0 0]) ?_ 2 _ rfl; (with_reducible repeat (first | refine blk_drewN ?_ _ | refine blk_drew ?_ | refine blk_alloc ?_ _)); refine blk_put (cs := #[.int .i64 t663, .int .i64 0, .int .i64 0, .slice none 0 0, .slice none 0 0]) ?_ 1 _ rfl; (with_reducible repeat (first | refine blk_drewN ?_ _ | refine blk_drew ?_ | refine blk_alloc ?_ _)); refine blk_put (cs := #[.int .i64 0, .int .i64 0, .int .i64 0, .slice none 0 0, .slice none 0 0]) ?_ 0 _ rfl; (with_reducible repeat (first | refine blk_drewN ?_ _ | refine blk_drew ?_ | refine blk_alloc ?_ _)); exact BK676.out) hg (Kd.R_ne HO_12.out BK676.out (by decide))); have n9_ := Aside0.mk (hb); have n10_ := Aside0.mk (ho); clear HO_662003; clear HO_662004; clear BK649; clear BK650; clear BK661; clear HO668; clear HO671; clear HO674; clear BK676; clear HB; clear HO_12; have HO_662003 := n0_; have HO_662004 := n1_; have BK649 := n2_; have BK650 := n3_; have BK661 := n4_; have HO668 := n5_; have HO671 := n6_; have HO674 := n7_; have BK676 := n8_; have HB := n9_; have HO679 := n10_; clear n0_ n1_ n2_ n3_ n4_ n5_ n6_ n7_ n8_ n9_ n10_; clear ho hb hg hat))
        go_roundg k1
        case measure => have := HK1.out; omega
        case rel => exact ⟨(y677), (wrap64 (x13_1 + 1)), (x651000_1), (x651001_1), (x651002_1), (t663), (t664), (t665), (t666), (t669), (.slice Ao31 t666.length co31), (.slice Ao33 t669.length co33), (by first | rfl | (simp; done) | (simp [*]; done)), H', ⟨by have := HK1.out; omega⟩, ⟨by (with_reducible repeat (first | apply Kd.R_alloc | apply Kd.R_drewN | apply Kd.R_drew)); exact Kd.R_mono HO679.out (fun _ hk => trivial)⟩, ⟨by (with_reducible repeat (first | apply Kd.R_alloc | apply Kd.R_drewN | apply Kd.R_drew)); exact Kd.R_mono HO668.out (fun _ hk => trivial)⟩, ⟨by (with_reducible repeat (first | apply Kd.R_alloc | apply Kd.R_drewN | apply Kd.R_drew)); exact Kd.R_mono HO671.out (fun _ hk => trivial)⟩, ⟨by (with_reducible repeat (first | refine blk_drewN ?_ _ | refine blk_drew ?_ | refine blk_alloc ?_ _)); exact BK649.out⟩, ⟨by (with_reducible repeat (first | refine blk_drewN ?_ _ | refine blk_drew ?_ | refine blk_alloc ?_ _)); exact BK650.out⟩, ⟨by (with_reducible repeat (first | refine blk_drewN ?_ _ | refine blk_drew ?_ | refine blk_alloc ?_ _)); exact BK661.out⟩, ⟨pB HB⟩⟩
       ·rw [if_neg c21] at H
        exact absurd H (by simp)
      ·rw [if_neg c20] at H
       have c20b0 : (t675 == 0) = false := beq_eq_false_iff_ne.mpr c20
       have c20b1 : (t675 != 0) = true := bne_iff_ne.mpr c20
       simp only [Option.some.injEq, Prod.mk.injEq] at H
       obtain ⟨rfl, rfl, rfl, rfl, rfl, rfl, rfl, rfl⟩ := H
       obtain ⟨Ao44, co44, eo44⟩ := Kd.R_slice HO_662003.out
       subst eo44
       obtain ⟨Ao45, co45, eo45⟩ := Kd.R_slice HO_662004.out
       subst eo45
       try go_wp2
       replace HO_12 := Aside0.mk (Kd.R_drew HO_12.out)
       replace HO_662003 := Aside0.mk (Kd.R_drew HO_662003.out)
       replace HO_662004 := Aside0.mk (Kd.R_drew HO_662004.out)
       replace BK649 := Aside0.mk (blk_drew BK649.out)
       replace BK650 := Aside0.mk (blk_drew BK650.out)
       replace BK661 := Aside0.mk (blk_drew BK661.out)
       replace HB := Aside0.mk (below_drew1 HB.out)
       have p662 : 0 ≤ (x13_1 : Int) := of_decide_eq_true (by first | (with_reducible assumption) | assumption)
       have q662 : x13_1 < (l2.length : Int) := of_decide_eq_true (by first | (with_reducible assumption) | assumption)
       obtain ⟨ad662, e662, hx662_0, hx662_1, hx662_2, hx662_3⟩ := at_T47 HR2.out x13_1 p662 q662
       have hw662_3 := hx662_3
       have hw662_2 := hx662_2
       have hw662_1 := hx662_1
       have hw662_0 := hx662_0
       cases e662
       replace hx662_0 := (HB.out.cell (World.block_lt_of_cell? w _ hx662_0)).trans hx662_0
       replace hx662_1 := (HB.out.cell (World.block_lt_of_cell? w _ hx662_1)).trans hx662_1
       replace hx662_2 := (HB.out.cell (World.block_lt_of_cell? w _ hx662_2)).trans hx662_2
       replace hx662_3 := (HB.out.cell (World.block_lt_of_cell? w _ hx662_3)).trans hx662_3
       replace p662 := eq_true p662
       replace q662 := eq_true q662
       refine start_ (n := 14) (S := fun w' => w'.cell? ⟨gb661, 0, none⟩ = some (.int .i64 x662000_1) ∧ w'.cell? ⟨gb661, 1, none⟩ = some (.int .i64 x662001_1) ∧ w'.cell? ⟨gb661, 2, none⟩ = some (.int .i64 x662002_1) ∧ w'.cell? ⟨gb661, 3, none⟩ = some (.slice Ao44 x662003_1.length co44) ∧ w'.cell? ⟨gb661, 4, none⟩ = some (.slice Ao45 x662004_1.length co45) ∧ w'.cell? (ad662.add ((x13_1).toNat * 4)) = some (.int .i64 ((rd_T47 l2 x13_1).f0)) ∧ w'.cell? ⟨(ad662.add ((x13_1).toNat * 4)).block, (ad662.add ((x13_1).toNat * 4)).off + 1, none⟩ = some (.int .i64 ((rd_T47 l2 x13_1).f1)) ∧ w'.cell? ⟨(ad662.add ((x13_1).toNat * 4)).block, (ad662.add ((x13_1).toNat * 4)).off + 2, none⟩ = some (.int .i64 ((rd_T47 l2 x13_1).f2)) ∧ w'.cell? ⟨(ad662.add ((x13_1).toNat * 4)).block, (ad662.add ((x13_1).toNat * 4)).off + 3, none⟩ = some (.int .i64 ((rd_T47 l2 x13_1).f3))) (ds := []) #[false, false, false, false, false, false, false, false, false, false, false, false, false, false] (by kernel_rfl) rfl rfl ⟨(blk_cell BK661.out 0).trans rfl, (blk_cell BK661.out 1).trans rfl, (blk_cell BK661.out 2).trans rfl, (blk_cell BK661.out 3).trans rfl, (blk_cell BK661.out 4).trans rfl, ((HB.out.cell (World.block_lt_of_cell? w _ hw662_0)).trans hw662_0), ((HB.out.cell (World.block_lt_of_cell? w _ hw662_1)).trans hw662_1), ((HB.out.cell (World.block_lt_of_cell? w _ hw662_2)).trans hw662_2), ((HB.out.cell (World.block_lt_of_cell? w _ hw662_3)).trans hw662_3)⟩ (fun hHeld => ?_); refine with_tabW insolvencyref33_PlayDocket.tab8 insolvencyref33_PlayDocket.bits8 (fun HT_ HW_ => ?_)
       generalize wr.drew = w46 at HO_12 HO_662003 HO_662004 BK649 BK650 BK661 HB hx662_0 hx662_1 hx662_2 hx662_3 hHeld ⊢
       refine pure_ (i := 1) (N := some 35) (v := ?_) (a' := ?_) #[false, true, false, false, false, false, false, false, false, false, false, false, false, false] rfl rfl (any_of HT_.out (by kernel_rfl)) (fun _ _ _ h => h) (Or.inl ⟨by rfl, ?_⟩) ?_ ?_
       rotate_left
       ·intro w'
        go_simp
        with_reducible rfl
       rotate_left
       ·simp only [Act.put, List.setIfInBounds_toArray, List.set_cons_zero, List.set_cons_succ, i64_w, i32_w]
        rfl
       refine pure_ (i := 2) (N := some 36) (v := ?_) (a' := ?_) #[false, true, true, false, false, false, false, false, false, false, false, false, false, false] rfl rfl (any_of HT_.out (by kernel_rfl)) (fun _ _ _ h => h) (Or.inl ⟨by rfl, ?_⟩) ?_ ?_
       rotate_left
       ·intro w'
        go_simp
        with_reducible rfl
       rotate_left
       ·simp only [Act.put, List.setIfInBounds_toArray, List.set_cons_zero, List.set_cons_succ, i64_w, i32_w]
        rfl
       refine pure_ (i := 3) (N := some 37) (v := ?_) (a' := ?_) #[false, true, true, true, false, false, false, false, false, false, false, false, false, false] rfl rfl (any_of HT_.out (by kernel_rfl)) (fun _ _ _ h => h) (Or.inl ⟨by rfl, ?_⟩) ?_ ?_
       rotate_left
       ·intro w'
        go_simp
        with_reducible rfl
       rotate_left
       ·simp only [Act.put, List.setIfInBounds_toArray, List.set_cons_zero, List.set_cons_succ, i64_w, i32_w]
        rfl
       refine take_ (i := 0) (N := some 34) (v := ?_) (a' := ?_) #[true, true, true, true, false, false, false, false, false, false, false, false, false, false] rfl rfl (take_ofW HT_.out HW_.out (by kernel_rfl)) (fun _ _ _ h => h) (Or.inl ⟨by rfl, ?_⟩) hHeld ?_ ?_
       rotate_left
       ·rintro w' ⟨s0, s1, s2, s3, s4, s5, s6, s7, s8⟩
        go_simp
        with_reducible rfl
       rotate_left
       ·simp only [Act.put, List.setIfInBounds_toArray, List.set_cons_zero, List.set_cons_succ, i64_w, i32_w]
        rfl
       refine take_ (i := 4) (N := some 38) (v := ?_) (a' := ?_) #[true, true, true, true, true, false, false, false, false, false, false, false, false, false] rfl rfl (take_ofW HT_.out HW_.out (by kernel_rfl)) (fun _ _ _ h => h) (Or.inl ⟨by rfl, ?_⟩) hHeld ?_ ?_
       rotate_left
       ·rintro w' ⟨s0, s1, s2, s3, s4, s5, s6, s7, s8⟩
        go_simp
        with_reducible rfl
       rotate_left
       ·simp only [Act.put, List.setIfInBounds_toArray, List.set_cons_zero, List.set_cons_succ, i64_w, i32_w]
        rfl
       refine join_ (σ := Value × Value × Value × Nat) 3 #[true, true, true, true, true, true, true, true, true, true, true, false, false, false] (fun s_ => [(39, .tuple #[.agg #[.int .i64 t663, .int .i64 t664, .int .i64 t665, s_.1, s_.2.1], s_.2.2.1, .int .i64 t675]), (14, .pointer (some ⟨s_.2.2.2, 0, none⟩)), (33, .tuple #[.agg #[.int .i64 t663, .int .i64 t664, .int .i64 t665, s_.1, s_.2.1], s_.2.2.1, .int .i64 t675]), (40, .agg #[.int .i64 t663, .int .i64 t664, .int .i64 t665, s_.1, s_.2.1]), (41, s_.2.2.1), (42, .int .i64 t675)]) (fun s_ w' => (w'.cell? ⟨gb661, 0, none⟩ = some (.int .i64 x662000_1) ∧ w'.cell? ⟨gb661, 1, none⟩ = some (.int .i64 x662001_1) ∧ w'.cell? ⟨gb661, 2, none⟩ = some (.int .i64 x662002_1) ∧ w'.cell? ⟨gb661, 3, none⟩ = some (.slice Ao44 x662003_1.length co44) ∧ w'.cell? ⟨gb661, 4, none⟩ = some (.slice Ao45 x662004_1.length co45) ∧ w'.cell? (ad662.add ((x13_1).toNat * 4)) = some (.int .i64 ((rd_T47 l2 x13_1).f0)) ∧ w'.cell? ⟨(ad662.add ((x13_1).toNat * 4)).block, (ad662.add ((x13_1).toNat * 4)).off + 1, none⟩ = some (.int .i64 ((rd_T47 l2 x13_1).f1)) ∧ w'.cell? ⟨(ad662.add ((x13_1).toNat * 4)).block, (ad662.add ((x13_1).toNat * 4)).off + 2, none⟩ = some (.int .i64 ((rd_T47 l2 x13_1).f2)) ∧ w'.cell? ⟨(ad662.add ((x13_1).toNat * 4)).block, (ad662.add ((x13_1).toNat * 4)).off + 3, none⟩ = some (.int .i64 ((rd_T47 l2 x13_1).f3))) ∧ (Kd.R (Kd.int .i64) 3 w' w.heap.size (fun k_ => some k_ ≠ (.slice Ao44 x662003_1.length co44 : Value).ownBlock) s_.1 t666) ∧ (Kd.R k50 50 w' w.heap.size (fun k_ => some k_ ≠ (.slice Ao45 x662004_1.length co45 : Value).ownBlock) s_.2.1 t669) ∧ (Kd.R k52 52 w' w.heap.size (fun k_ => some k_ ≠ (u12 : Value).ownBlock) s_.2.2.1 t672) ∧ (Kd.R k52 52 w' w.heap.size (fun k_ => some k_ ≠ (s_.2.2.1 : Value).ownBlock) u12 x12_1) ∧ (Kd.R (Kd.int .i64) 3 w' w.heap.size (fun k_ => some k_ ≠ (s_.1 : Value).ownBlock) (.slice Ao44 x662003_1.length co44) x662003_1) ∧ (Kd.R k50 50 w' w.heap.size (fun k_ => some k_ ≠ (s_.2.1 : Value).ownBlock) (.slice Ao45 x662004_1.length co45) x662004_1) ∧ (w'.heap[gb649]? = some (.cells #[.int .i64 a1_0, .int .i64 a1_1, .slice A1_2 l1_2.length c1_2] 27 (0, 0))) ∧ (w'.heap[gb650]? = some (.cells #[.int .i64 x651000_1, .int .i64 x651001_1, .int .i64 x651002_1, .slice none 0 0, .slice none 0 0] 30 (0, 0))) ∧ (w'.heap[gb661]? = some (.cells #[.int .i64 x662000_1, .int .i64 x662001_1, .int .i64 x662002_1, .slice Ao44 x662003_1.length co44, .slice Ao45 x662004_1.length co45] 30 (0, 0))) ∧ (w'.heap[s_.2.2.2]? = some (.cells #[.int .i64 0, .int .i64 0, .int .i64 0, .slice none 0 0, .slice none 0 0] 30 (0, 0))) ∧ (w.heap.size ≤ s_.2.2.2) ∧ (w.heap.size ≤ s_.2.2.2) ∧ (gb649 ≠ s_.2.2.2) ∧ (s_.2.2.2 ≠ gb649) ∧ (gb650 ≠ s_.2.2.2) ∧ (s_.2.2.2 ≠ gb650) ∧ (gb661 ≠ s_.2.2.2) ∧ (s_.2.2.2 ≠ gb661) ∧ (Below w.heap.size w w')) ?_ ?_
       rotate_left
       ·intro hCont
        refine two_ (i := 5) (j := 10) (Ni := some 39) (Nj := some 14) #[true, true, true, true, true, true, false, false, false, false, false, false, false, false] #[true, true, true, true, true, false, false, false, false, false, true, false, false, false] rfl rfl rfl rfl (two_of HT_.out (by kernel_rfl)) (by decide) (by decide) (fun K hK => ?_) (fun K hK => ?_)
        ·skip
         refine goes_ Try.func28 (by kernel_rfl) rfl #[.agg #[.int .i64 x662000_1, .int .i64 x662001_1, .int .i64 x662002_1, .slice Ao44 x662003_1.length co44, .slice Ao45 x662004_1.length co45], .agg #[.int .i64 ((rd_T47 l2 x13_1).f0), .int .i64 ((rd_T47 l2 x13_1).f1), .int .i64 ((rd_T47 l2 x13_1).f2), .int .i64 ((rd_T47 l2 x13_1).f3)]] (by rfl) rfl rfl (by (try simp only [List.map_toArray, List.map_cons, List.map_nil]); first | done | rfl | (simp only [List.length_drop, List.length_take]; rfl)) ?_
         with_reducible refine (ref_File.calls k1 x662000_1 x662001_1 x662002_1 _ _ x662003_1 _ _ x662004_1 ((rd_T47 l2 x13_1).f0) ((rd_T47 l2 x13_1).f1) ((rd_T47 l2 x13_1).f2) ((rd_T47 l2 x13_1).f3) t663 t664 t665 t666 t669 t672 t675 _ ?side1 ?side2 ?side3 ?side4 A19.out).mono ?_
         (case side1 => repeat (first | exact (Kd.R_reads' HO_662003.out).2.2 | (with_reducible refine Kd.C_alloc ?_ _) | (with_reducible refine Kd.C_drewN ?_ _) | (with_reducible refine Kd.C_drew ?_)))
         (case side2 => exact (Kd.R_reads' HO_662003.out).2.1)
         (case side3 => repeat (first | exact (Kd.R_reads' HO_662004.out).2.2 | (with_reducible refine Kd.C_alloc ?_ _) | (with_reducible refine Kd.C_drewN ?_ _) | (with_reducible refine Kd.C_drew ?_)))
         (case side4 => exact (Kd.R_reads' HO_662004.out).2.1)
         rintro e w47 ⟨v667, v670, v673, rfl, ho0, ho1, ho2, hb⟩
         refine ⟨_, rfl, ?_⟩
         have HO668 := Aside0.mk (Kd.R_lower (Kd.R_new' ho0 (Kd.R_lt (by (with_reducible repeat (first | apply Kd.R_alloc | apply Kd.R_drewN | apply Kd.R_drew)); exact HO_662003.out))) (below_size (pB HB)))
         have HO671 := Aside0.mk (Kd.R_lower (Kd.R_new' ho1 (Kd.R_lt (by (with_reducible repeat (first | apply Kd.R_alloc | apply Kd.R_drewN | apply Kd.R_drew)); exact HO_662004.out))) (below_size (pB HB)))
         have HO674 := Aside0.mk (Kd.R_lower (Kd.R_new' ho2 (Kd.R_lt (by (with_reducible repeat (first | apply Kd.R_alloc | apply Kd.R_drewN | apply Kd.R_drew)); exact HO_12.out))) (below_size (pB HB)))
         replace HO_12 := Aside0.mk (Kd.R_elder' (by (with_reducible repeat (first | apply Kd.R_alloc | apply Kd.R_drewN | apply Kd.R_drew)); exact HO_12.out) (Kd.R_base ho2) hb)
         replace HO_662003 := Aside0.mk (Kd.R_elder' (by (with_reducible repeat (first | apply Kd.R_alloc | apply Kd.R_drewN | apply Kd.R_drew)); exact HO_662003.out) (Kd.R_base ho0) hb)
         replace HO_662004 := Aside0.mk (Kd.R_elder' (by (with_reducible repeat (first | apply Kd.R_alloc | apply Kd.R_drewN | apply Kd.R_drew)); exact HO_662004.out) (Kd.R_base ho1) hb)
         replace BK649 := bB BK649 hb
         replace BK650 := bB BK650 hb
         replace BK661 := bB BK661 hb
         replace HB := Aside0.mk (below_step (pB HB) hb)
         (try clear hb)
         (try clear hb2)
         (try clear hk)
         (try clear hi)
         (try clear ho0)
         (try clear ho1)
         (try clear ho2)
         refine hK.out _ _ ⟨(blk_cell BK661.out 0).trans rfl, (blk_cell BK661.out 1).trans rfl, (blk_cell BK661.out 2).trans rfl, (blk_cell BK661.out 3).trans rfl, (blk_cell BK661.out 4).trans rfl, ((HB.out.cell (World.block_lt_of_cell? w _ hw662_0)).trans hw662_0), ((HB.out.cell (World.block_lt_of_cell? w _ hw662_1)).trans hw662_1), ((HB.out.cell (World.block_lt_of_cell? w _ hw662_2)).trans hw662_2), ((HB.out.cell (World.block_lt_of_cell? w _ hw662_3)).trans hw662_3)⟩ (fun hHeld => ?_)
         clear hK K
         refine norm_ (a' := ?_) ?_ ?_
         rotate_left
         ·show Act.put _ (some 39) _ = _
          simp only [Act.put, List.setIfInBounds_toArray, List.set_cons_zero, List.set_cons_succ, i64_w, i32_w]
          rfl
         refine pure_ (i := 6) (N := some 33) (v := ?_) (a' := ?_) #[true, true, true, true, true, true, true, false, false, false, false, false, false, false] rfl rfl (any_of HT_.out (by kernel_rfl)) (fun _ _ _ h => h) (Or.inl ⟨by rfl, ?_⟩) ?_ ?_
         rotate_left
         ·intro w'
          go_simp
          with_reducible rfl
         rotate_left
         ·simp only [Act.put, List.setIfInBounds_toArray, List.set_cons_zero, List.set_cons_succ, i64_w, i32_w]
          rfl
         refine pure_ (i := 7) (N := some 40) (v := ?_) (a' := ?_) #[true, true, true, true, true, true, true, true, false, false, false, false, false, false] rfl rfl (any_of HT_.out (by kernel_rfl)) (fun _ _ _ h => h) (Or.inl ⟨by rfl, ?_⟩) ?_ ?_
         rotate_left
         ·intro w'
          go_simp
          with_reducible rfl
         rotate_left
         ·simp only [Act.put, List.setIfInBounds_toArray, List.set_cons_zero, List.set_cons_succ, i64_w, i32_w]
          rfl
         refine pure_ (i := 8) (N := some 41) (v := ?_) (a' := ?_) #[true, true, true, true, true, true, true, true, true, false, false, false, false, false] rfl rfl (any_of HT_.out (by kernel_rfl)) (fun _ _ _ h => h) (Or.inl ⟨by rfl, ?_⟩) ?_ ?_
         rotate_left
         ·intro w'
          go_simp
          with_reducible rfl
         rotate_left
         ·simp only [Act.put, List.setIfInBounds_toArray, List.set_cons_zero, List.set_cons_succ, i64_w, i32_w]
          rfl
         refine pure_ (i := 9) (N := some 42) (v := ?_) (a' := ?_) #[true, true, true, true, true, true, true, true, true, true, false, false, false, false] rfl rfl (any_of HT_.out (by kernel_rfl)) (fun _ _ _ h => h) (Or.inl ⟨by rfl, ?_⟩) ?_ ?_
         rotate_left
         ·intro w'
          go_simp
          with_reducible rfl
         rotate_left
         ·simp only [Act.put, List.setIfInBounds_toArray, List.set_cons_zero, List.set_cons_succ, i64_w, i32_w]
          rfl
         refine one_ (i := 10) (N := some 14) #[true, true, true, true, true, true, true, true, true, true, true, false, false, false] rfl rfl (one_of HT_.out (by kernel_rfl)) (by decide) (fun K hK => ?_)
         refine box_step ?hg (N := 14) ?hd (cs := #[.int .i64 0, .int .i64 0, .int .i64 0, .slice none 0 0, .slice none 0 0]) (t := 30) ?hr ?_; (case hd => rfl); (case hg => rfl); (case hr => first | (go_simp; done) | (go_simp; rfl))
         intro gb676 hg w48 hbox hb
         have BK676 := Aside0.mk (hbox)
         have GW676 := gS HB hg
         have GE676 := gS HB hg
         have NB649_676 := nL BK649 hg
         have NB676_649 := nG BK649 hg
         have NB650_676 := nL BK650 hg
         have NB676_650 := nG BK650 hg
         have NB661_676 := nL BK661 hg
         have NB676_661 := nG BK661 hg
         replace HO_12 := rB HO_12 hb
         replace HO_662003 := rB HO_662003 hb
         replace HO_662004 := rB HO_662004 hb
         replace HO668 := rB HO668 hb
         replace HO671 := rB HO671 hb
         replace HO674 := rB HO674 hb
         replace BK649 := bB BK649 hb
         replace BK650 := bB BK650 hb
         replace BK661 := bB BK661 hb
         replace HB := Aside0.mk (below_step (pB HB) hb)
         clear hb hbox hg
         refine hK.out _ _ ⟨(blk_cell BK661.out 0).trans rfl, (blk_cell BK661.out 1).trans rfl, (blk_cell BK661.out 2).trans rfl, (blk_cell BK661.out 3).trans rfl, (blk_cell BK661.out 4).trans rfl, ((HB.out.cell (World.block_lt_of_cell? w _ hw662_0)).trans hw662_0), ((HB.out.cell (World.block_lt_of_cell? w _ hw662_1)).trans hw662_1), ((HB.out.cell (World.block_lt_of_cell? w _ hw662_2)).trans hw662_2), ((HB.out.cell (World.block_lt_of_cell? w _ hw662_3)).trans hw662_3)⟩ (fun hHeld => ?_)
         clear hK K
         refine norm_ (a' := ?_) ?_ ?_
         rotate_left
         ·show Act.put _ (some 14) _ = _
          simp only [Act.put, List.setIfInBounds_toArray, List.set_cons_zero, List.set_cons_succ, i64_w, i32_w]
          rfl
         exact norm_ (by simp only [putAll, Act.put, List.setIfInBounds_toArray, List.set_cons_zero, List.set_cons_succ]) (hCont (v667, v670, v673, gb676) _ ⟨hHeld, (by (with_reducible repeat (first | apply Kd.R_alloc | apply Kd.R_drewN | apply Kd.R_drew)); exact Kd.R_mono HO668.out (fun _ hk => hk.2)), (by (with_reducible repeat (first | apply Kd.R_alloc | apply Kd.R_drewN | apply Kd.R_drew)); exact Kd.R_mono HO671.out (fun _ hk => hk.2)), (by (with_reducible repeat (first | apply Kd.R_alloc | apply Kd.R_drewN | apply Kd.R_drew)); exact Kd.R_mono HO674.out (fun _ hk => hk.2)), (by (with_reducible repeat (first | apply Kd.R_alloc | apply Kd.R_drewN | apply Kd.R_drew)); exact Kd.R_mono HO_12.out (fun _ hk => hk.2)), (by (with_reducible repeat (first | apply Kd.R_alloc | apply Kd.R_drewN | apply Kd.R_drew)); exact Kd.R_mono HO_662003.out (fun _ hk => hk.2)), (by (with_reducible repeat (first | apply Kd.R_alloc | apply Kd.R_drewN | apply Kd.R_drew)); exact Kd.R_mono HO_662004.out (fun _ hk => hk.2)), (by (with_reducible repeat (first | refine blk_drewN ?_ _ | refine blk_drew ?_ | refine blk_alloc ?_ _)); exact BK649.out), (by (with_reducible repeat (first | refine blk_drewN ?_ _ | refine blk_drew ?_ | refine blk_alloc ?_ _)); exact BK650.out), (by (with_reducible repeat (first | refine blk_drewN ?_ _ | refine blk_drew ?_ | refine blk_alloc ?_ _)); exact BK661.out), (by (with_reducible repeat (first | refine blk_drewN ?_ _ | refine blk_drew ?_ | refine blk_alloc ?_ _)); exact BK676.out), GW676.out, GE676.out, NB649_676.out, NB676_649.out, NB650_676.out, NB676_650.out, NB661_676.out, NB676_661.out, (pB HB)⟩)
        ·skip
         refine box_step ?hg (N := 14) ?hd (cs := #[.int .i64 0, .int .i64 0, .int .i64 0, .slice none 0 0, .slice none 0 0]) (t := 30) ?hr ?_; (case hd => rfl); (case hg => rfl); (case hr => first | (go_simp; done) | (go_simp; rfl))
         intro gb676 hg w47 hbox hb
         have BK676 := Aside0.mk (hbox)
         have GW676 := gS HB hg
         have GE676 := gS HB hg
         have NB649_676 := nL BK649 hg
         have NB676_649 := nG BK649 hg
         have NB650_676 := nL BK650 hg
         have NB676_650 := nG BK650 hg
         have NB661_676 := nL BK661 hg
         have NB676_661 := nG BK661 hg
         replace HO_12 := rB HO_12 hb
         replace HO_662003 := rB HO_662003 hb
         replace HO_662004 := rB HO_662004 hb
         replace BK649 := bB BK649 hb
         replace BK650 := bB BK650 hb
         replace BK661 := bB BK661 hb
         replace HB := Aside0.mk (below_step (pB HB) hb)
         clear hb hbox hg
         refine hK.out _ _ ⟨(blk_cell BK661.out 0).trans rfl, (blk_cell BK661.out 1).trans rfl, (blk_cell BK661.out 2).trans rfl, (blk_cell BK661.out 3).trans rfl, (blk_cell BK661.out 4).trans rfl, ((HB.out.cell (World.block_lt_of_cell? w _ hw662_0)).trans hw662_0), ((HB.out.cell (World.block_lt_of_cell? w _ hw662_1)).trans hw662_1), ((HB.out.cell (World.block_lt_of_cell? w _ hw662_2)).trans hw662_2), ((HB.out.cell (World.block_lt_of_cell? w _ hw662_3)).trans hw662_3)⟩ (fun hHeld => ?_)
         clear hK K
         refine norm_ (a' := ?_) ?_ ?_
         rotate_left
         ·show Act.put _ (some 14) _ = _
          simp only [Act.put, List.setIfInBounds_toArray, List.set_cons_zero, List.set_cons_succ, i64_w, i32_w]
          rfl
         refine one_ (i := 5) (N := some 39) #[true, true, true, true, true, true, false, false, false, false, true, false, false, false] rfl rfl (one_of HT_.out (by kernel_rfl)) (by decide) (fun K hK => ?_)
         refine goes_ Try.func28 (by kernel_rfl) rfl #[.agg #[.int .i64 x662000_1, .int .i64 x662001_1, .int .i64 x662002_1, .slice Ao44 x662003_1.length co44, .slice Ao45 x662004_1.length co45], .agg #[.int .i64 ((rd_T47 l2 x13_1).f0), .int .i64 ((rd_T47 l2 x13_1).f1), .int .i64 ((rd_T47 l2 x13_1).f2), .int .i64 ((rd_T47 l2 x13_1).f3)]] (by rfl) rfl rfl (by (try simp only [List.map_toArray, List.map_cons, List.map_nil]); first | done | rfl | (simp only [List.length_drop, List.length_take]; rfl)) ?_
         with_reducible refine (ref_File.calls k1 x662000_1 x662001_1 x662002_1 _ _ x662003_1 _ _ x662004_1 ((rd_T47 l2 x13_1).f0) ((rd_T47 l2 x13_1).f1) ((rd_T47 l2 x13_1).f2) ((rd_T47 l2 x13_1).f3) t663 t664 t665 t666 t669 t672 t675 _ ?side1 ?side2 ?side3 ?side4 A19.out).mono ?_
         (case side1 => repeat (first | exact (Kd.R_reads' HO_662003.out).2.2 | (with_reducible refine Kd.C_alloc ?_ _) | (with_reducible refine Kd.C_drewN ?_ _) | (with_reducible refine Kd.C_drew ?_)))
         (case side2 => exact (Kd.R_reads' HO_662003.out).2.1)
         (case side3 => repeat (first | exact (Kd.R_reads' HO_662004.out).2.2 | (with_reducible refine Kd.C_alloc ?_ _) | (with_reducible refine Kd.C_drewN ?_ _) | (with_reducible refine Kd.C_drew ?_)))
         (case side4 => exact (Kd.R_reads' HO_662004.out).2.1)
         rintro e w48 ⟨v667, v670, v673, rfl, ho0, ho1, ho2, hb⟩
         refine ⟨_, rfl, ?_⟩
         have HO668 := Aside0.mk (Kd.R_lower (Kd.R_new' ho0 (Kd.R_lt (by (with_reducible repeat (first | apply Kd.R_alloc | apply Kd.R_drewN | apply Kd.R_drew)); exact HO_662003.out))) (below_size (pB HB)))
         have HO671 := Aside0.mk (Kd.R_lower (Kd.R_new' ho1 (Kd.R_lt (by (with_reducible repeat (first | apply Kd.R_alloc | apply Kd.R_drewN | apply Kd.R_drew)); exact HO_662004.out))) (below_size (pB HB)))
         have HO674 := Aside0.mk (Kd.R_lower (Kd.R_new' ho2 (Kd.R_lt (by (with_reducible repeat (first | apply Kd.R_alloc | apply Kd.R_drewN | apply Kd.R_drew)); exact HO_12.out))) (below_size (pB HB)))
         replace HO_12 := Aside0.mk (Kd.R_elder' (by (with_reducible repeat (first | apply Kd.R_alloc | apply Kd.R_drewN | apply Kd.R_drew)); exact HO_12.out) (Kd.R_base ho2) hb)
         replace HO_662003 := Aside0.mk (Kd.R_elder' (by (with_reducible repeat (first | apply Kd.R_alloc | apply Kd.R_drewN | apply Kd.R_drew)); exact HO_662003.out) (Kd.R_base ho0) hb)
         replace HO_662004 := Aside0.mk (Kd.R_elder' (by (with_reducible repeat (first | apply Kd.R_alloc | apply Kd.R_drewN | apply Kd.R_drew)); exact HO_662004.out) (Kd.R_base ho1) hb)
         replace BK649 := bB BK649 hb
         replace BK650 := bB BK650 hb
         replace BK661 := bB BK661 hb
         replace BK676 := bB BK676 hb
         replace HB := Aside0.mk (below_step (pB HB) hb)
         (try clear hb)
         (try clear hb2)
         (try clear hk)
         (try clear hi)
         (try clear ho0)
         (try clear ho1)
         (try clear ho2)
         refine hK.out _ _ ⟨(blk_cell BK661.out 0).trans rfl, (blk_cell BK661.out 1).trans rfl, (blk_cell BK661.out 2).trans rfl, (blk_cell BK661.out 3).trans rfl, (blk_cell BK661.out 4).trans rfl, ((HB.out.cell (World.block_lt_of_cell? w _ hw662_0)).trans hw662_0), ((HB.out.cell (World.block_lt_of_cell? w _ hw662_1)).trans hw662_1), ((HB.out.cell (World.block_lt_of_cell? w _ hw662_2)).trans hw662_2), ((HB.out.cell (World.block_lt_of_cell? w _ hw662_3)).trans hw662_3)⟩ (fun hHeld => ?_)
         clear hK K
         refine norm_ (a' := ?_) ?_ ?_
         rotate_left
         ·show Act.put _ (some 39) _ = _
          simp only [Act.put, List.setIfInBounds_toArray, List.set_cons_zero, List.set_cons_succ, i64_w, i32_w]
          rfl
         refine pure_ (i := 6) (N := some 33) (v := ?_) (a' := ?_) #[true, true, true, true, true, true, true, false, false, false, true, false, false, false] rfl rfl (any_of HT_.out (by kernel_rfl)) (fun _ _ _ h => h) (Or.inl ⟨by rfl, ?_⟩) ?_ ?_
         rotate_left
         ·intro w'
          go_simp
          with_reducible rfl
         rotate_left
         ·simp only [Act.put, List.setIfInBounds_toArray, List.set_cons_zero, List.set_cons_succ, i64_w, i32_w]
          rfl
         refine pure_ (i := 7) (N := some 40) (v := ?_) (a' := ?_) #[true, true, true, true, true, true, true, true, false, false, true, false, false, false] rfl rfl (any_of HT_.out (by kernel_rfl)) (fun _ _ _ h => h) (Or.inl ⟨by rfl, ?_⟩) ?_ ?_
         rotate_left
         ·intro w'
          go_simp
          with_reducible rfl
         rotate_left
         ·simp only [Act.put, List.setIfInBounds_toArray, List.set_cons_zero, List.set_cons_succ, i64_w, i32_w]
          rfl
         refine pure_ (i := 8) (N := some 41) (v := ?_) (a' := ?_) #[true, true, true, true, true, true, true, true, true, false, true, false, false, false] rfl rfl (any_of HT_.out (by kernel_rfl)) (fun _ _ _ h => h) (Or.inl ⟨by rfl, ?_⟩) ?_ ?_
         rotate_left
         ·intro w'
          go_simp
          with_reducible rfl
         rotate_left
         ·simp only [Act.put, List.setIfInBounds_toArray, List.set_cons_zero, List.set_cons_succ, i64_w, i32_w]
          rfl
         refine pure_ (i := 9) (N := some 42) (v := ?_) (a' := ?_) #[true, true, true, true, true, true, true, true, true, true, true, false, false, false] rfl rfl (any_of HT_.out (by kernel_rfl)) (fun _ _ _ h => h) (Or.inl ⟨by rfl, ?_⟩) ?_ ?_
         rotate_left
         ·intro w'
          go_simp
          with_reducible rfl
         rotate_left
         ·simp only [Act.put, List.setIfInBounds_toArray, List.set_cons_zero, List.set_cons_succ, i64_w, i32_w]
          rfl
         exact norm_ (by simp only [putAll, Act.put, List.setIfInBounds_toArray, List.set_cons_zero, List.set_cons_succ]) (hCont (v667, v670, v673, gb676) _ ⟨hHeld, (by (with_reducible repeat (first | apply Kd.R_alloc | apply Kd.R_drewN | apply Kd.R_drew)); exact Kd.R_mono HO668.out (fun _ hk => hk.2)), (by (with_reducible repeat (first | apply Kd.R_alloc | apply Kd.R_drewN | apply Kd.R_drew)); exact Kd.R_mono HO671.out (fun _ hk => hk.2)), (by (with_reducible repeat (first | apply Kd.R_alloc | apply Kd.R_drewN | apply Kd.R_drew)); exact Kd.R_mono HO674.out (fun _ hk => hk.2)), (by (with_reducible repeat (first | apply Kd.R_alloc | apply Kd.R_drewN | apply Kd.R_drew)); exact Kd.R_mono HO_12.out (fun _ hk => hk.2)), (by (with_reducible repeat (first | apply Kd.R_alloc | apply Kd.R_drewN | apply Kd.R_drew)); exact Kd.R_mono HO_662003.out (fun _ hk => hk.2)), (by (with_reducible repeat (first | apply Kd.R_alloc | apply Kd.R_drewN | apply Kd.R_drew)); exact Kd.R_mono HO_662004.out (fun _ hk => hk.2)), (by (with_reducible repeat (first | refine blk_drewN ?_ _ | refine blk_drew ?_ | refine blk_alloc ?_ _)); exact BK649.out), (by (with_reducible repeat (first | refine blk_drewN ?_ _ | refine blk_drew ?_ | refine blk_alloc ?_ _)); exact BK650.out), (by (with_reducible repeat (first | refine blk_drewN ?_ _ | refine blk_drew ?_ | refine blk_alloc ?_ _)); exact BK661.out), (by (with_reducible repeat (first | refine blk_drewN ?_ _ | refine blk_drew ?_ | refine blk_alloc ?_ _)); exact BK676.out), GW676.out, GE676.out, NB649_676.out, NB676_649.out, NB650_676.out, NB676_650.out, NB661_676.out, NB676_661.out, (pB HB)⟩)
       rintro ⟨v667, v670, v673, gb676⟩ w49 ⟨hS_, h0_, h1_, h2_, h3_, h4_, h5_, h6_, h7_, h8_, h9_, h10_, h11_, h12_, h13_, h14_, h15_, h16_, h17_, h18_⟩
       have n0_ : Aside0 (Kd.R (Kd.int .i64) 3 w49 w.heap.size (fun k_ => some k_ ≠ (.slice Ao44 x662003_1.length co44 : Value).ownBlock) v667 t666) := ⟨h0_⟩
       have n1_ : Aside0 (Kd.R k50 50 w49 w.heap.size (fun k_ => some k_ ≠ (.slice Ao45 x662004_1.length co45 : Value).ownBlock) v670 t669) := ⟨h1_⟩
       have n2_ : Aside0 (Kd.R k52 52 w49 w.heap.size (fun k_ => some k_ ≠ (u12 : Value).ownBlock) v673 t672) := ⟨h2_⟩
       have n3_ : Aside0 (Kd.R k52 52 w49 w.heap.size (fun k_ => some k_ ≠ (v673 : Value).ownBlock) u12 x12_1) := ⟨h3_⟩
       have n4_ : Aside0 (Kd.R (Kd.int .i64) 3 w49 w.heap.size (fun k_ => some k_ ≠ (v667 : Value).ownBlock) (.slice Ao44 x662003_1.length co44) x662003_1) := ⟨h4_⟩
       have n5_ : Aside0 (Kd.R k50 50 w49 w.heap.size (fun k_ => some k_ ≠ (v670 : Value).ownBlock) (.slice Ao45 x662004_1.length co45) x662004_1) := ⟨h5_⟩
       have n6_ : Aside0 (w49.heap[gb649]? = some (.cells #[.int .i64 a1_0, .int .i64 a1_1, .slice A1_2 l1_2.length c1_2] 27 (0, 0))) := ⟨h6_⟩
       have n7_ : Aside0 (w49.heap[gb650]? = some (.cells #[.int .i64 x651000_1, .int .i64 x651001_1, .int .i64 x651002_1, .slice none 0 0, .slice none 0 0] 30 (0, 0))) := ⟨h7_⟩
       have n8_ : Aside0 (w49.heap[gb661]? = some (.cells #[.int .i64 x662000_1, .int .i64 x662001_1, .int .i64 x662002_1, .slice Ao44 x662003_1.length co44, .slice Ao45 x662004_1.length co45] 30 (0, 0))) := ⟨h8_⟩
       have n9_ : Aside0 (w49.heap[gb676]? = some (.cells #[.int .i64 0, .int .i64 0, .int .i64 0, .slice none 0 0, .slice none 0 0] 30 (0, 0))) := ⟨h9_⟩
       have n10_ : Aside0 (w.heap.size ≤ gb676) := ⟨h10_⟩
       have n11_ : Aside0 (w.heap.size ≤ gb676) := ⟨h11_⟩
       have n12_ : Aside0 (gb649 ≠ gb676) := ⟨h12_⟩
       have n13_ : Aside0 (gb676 ≠ gb649) := ⟨h13_⟩
       have n14_ : Aside0 (gb650 ≠ gb676) := ⟨h14_⟩
       have n15_ : Aside0 (gb676 ≠ gb650) := ⟨h15_⟩
       have n16_ : Aside0 (gb661 ≠ gb676) := ⟨h16_⟩
       have n17_ : Aside0 (gb676 ≠ gb661) := ⟨h17_⟩
       have n18_ : Aside0 (Below w.heap.size w w49) := ⟨h18_⟩
       clear HO_12
       clear HO_662003
       clear HO_662004
       clear BK649
       clear BK650
       clear BK661
       clear HB
       clear h0_ h1_ h2_ h3_ h4_ h5_ h6_ h7_ h8_ h9_ h10_ h11_ h12_ h13_ h14_ h15_ h16_ h17_ h18_
       have HO668 := n0_
       have HO671 := n1_
       have HO674 := n2_
       have HO_12 := n3_
       have HO_662003 := n4_
       have HO_662004 := n5_
       have BK649 := n6_
       have BK650 := n7_
       have BK661 := n8_
       have BK676 := n9_
       have GW676 := n10_
       have GE676 := n11_
       have NB649_676 := n12_
       have NB676_649 := n13_
       have NB650_676 := n14_
       have NB676_650 := n15_
       have NB661_676 := n16_
       have NB676_661 := n17_
       have HB := n18_
       clear n0_ n1_ n2_ n3_ n4_ n5_ n6_ n7_ n8_ n9_ n10_ n11_ n12_ n13_ n14_ n15_ n16_ n17_ n18_
       have hHeld : w49.cell? ⟨gb661, 0, none⟩ = some (.int .i64 x662000_1) ∧ w49.cell? ⟨gb661, 1, none⟩ = some (.int .i64 x662001_1) ∧ w49.cell? ⟨gb661, 2, none⟩ = some (.int .i64 x662002_1) ∧ w49.cell? ⟨gb661, 3, none⟩ = some (.slice Ao44 x662003_1.length co44) ∧ w49.cell? ⟨gb661, 4, none⟩ = some (.slice Ao45 x662004_1.length co45) ∧ w49.cell? (ad662.add ((x13_1).toNat * 4)) = some (.int .i64 ((rd_T47 l2 x13_1).f0)) ∧ w49.cell? ⟨(ad662.add ((x13_1).toNat * 4)).block, (ad662.add ((x13_1).toNat * 4)).off + 1, none⟩ = some (.int .i64 ((rd_T47 l2 x13_1).f1)) ∧ w49.cell? ⟨(ad662.add ((x13_1).toNat * 4)).block, (ad662.add ((x13_1).toNat * 4)).off + 2, none⟩ = some (.int .i64 ((rd_T47 l2 x13_1).f2)) ∧ w49.cell? ⟨(ad662.add ((x13_1).toNat * 4)).block, (ad662.add ((x13_1).toNat * 4)).off + 3, none⟩ = some (.int .i64 ((rd_T47 l2 x13_1).f3)) := hS_
       obtain ⟨Ao53, co53, eo53⟩ := Kd.R_slice HO668.out
       (first | subst eo53 | (injection eo53 with f1_ f2_ f3_; have f4_ := f1_.symm; have f5_ := f3_.symm; clear f1_ f2_ f3_; subst f4_; subst f5_))
       obtain ⟨Ao55, co55, eo55⟩ := Kd.R_slice HO671.out
       (first | subst eo55 | (injection eo55 with f1_ f2_ f3_; have f4_ := f1_.symm; have f5_ := f3_.symm; clear f1_ f2_ f3_; subst f4_; subst f5_))
       refine norm_ (a' := ?_) ?_ ?_
       rotate_left
       ·simp only [putAll, Act.put, List.setIfInBounds_toArray, List.set_cons_zero, List.set_cons_succ]
        rfl
       refine one_ (i := 11) (N := none) #[true, true, true, true, true, true, true, true, true, true, true, true, false, false] rfl rfl (one_of HT_.out (by kernel_rfl)) (by decide) (fun K hK => ?_)
       have hs50 : w49.cell? ⟨gb676, 0, none⟩ = some (.int .i64 0) := (blk_cell BK676.out 0).trans rfl
       have hfs50 := blk_frozen BK676.out 0
       have hns50_0 := NB649_676.out
       have hns50_1 := NB650_676.out
       have hns50_2 := NB661_676.out
       have hms50_0 := NB676_649.out
       have hms50_1 := NB676_650.out
       have hms50_2 := NB676_661.out
       have hs51 : w49.cell? ⟨gb676, 1, none⟩ = some (.int .i64 0) := (blk_cell BK676.out 1).trans rfl
       have hfs51 := blk_frozen BK676.out 1
       have hns51_0 := NB649_676.out
       have hns51_1 := NB650_676.out
       have hns51_2 := NB661_676.out
       have hms51_0 := NB676_649.out
       have hms51_1 := NB676_650.out
       have hms51_2 := NB676_661.out
       have hs52 : w49.cell? ⟨gb676, 2, none⟩ = some (.int .i64 0) := (blk_cell BK676.out 2).trans rfl
       have hfs52 := blk_frozen BK676.out 2
       have hns52_0 := NB649_676.out
       have hns52_1 := NB650_676.out
       have hns52_2 := NB661_676.out
       have hms52_0 := NB676_649.out
       have hms52_1 := NB676_650.out
       have hms52_2 := NB676_661.out
       have hs54 : w49.cell? ⟨gb676, 3, none⟩ = some (.slice none 0 0) := (blk_cell BK676.out 3).trans rfl
       have hfs54 := blk_frozen BK676.out 3
       have hns54_0 := NB649_676.out
       have hns54_1 := NB650_676.out
       have hns54_2 := NB661_676.out
       have hms54_0 := NB676_649.out
       have hms54_1 := NB676_650.out
       have hms54_2 := NB676_661.out
       have hs56 : w49.cell? ⟨gb676, 4, none⟩ = some (.slice none 0 0) := (blk_cell BK676.out 4).trans rfl
       have hfs56 := blk_frozen BK676.out 4
       have hns56_0 := NB649_676.out
       have hns56_1 := NB650_676.out
       have hns56_2 := NB661_676.out
       have hms56_0 := NB676_649.out
       have hms56_1 := NB676_650.out
       have hms56_2 := NB676_661.out
       refine skip_ (w1 := ?_) (by rfl) rfl ?_ ?_
       rotate_left
       ·go_simp
        rfl
       refine hK.out _ _ ⟨((cell_far (p := ⟨gb676, _, none⟩) NB661_676.out _).trans (((cell_far (p := ⟨gb676, _, none⟩) NB661_676.out _).trans (((cell_far (p := ⟨gb676, _, none⟩) NB661_676.out _).trans (((cell_far (p := ⟨gb676, _, none⟩) NB661_676.out _).trans (((cell_far (p := ⟨gb676, _, none⟩) NB661_676.out _).trans (hHeld.1)))))))))), ((cell_far (p := ⟨gb676, _, none⟩) NB661_676.out _).trans (((cell_far (p := ⟨gb676, _, none⟩) NB661_676.out _).trans (((cell_far (p := ⟨gb676, _, none⟩) NB661_676.out _).trans (((cell_far (p := ⟨gb676, _, none⟩) NB661_676.out _).trans (((cell_far (p := ⟨gb676, _, none⟩) NB661_676.out _).trans (hHeld.2.1)))))))))), ((cell_far (p := ⟨gb676, _, none⟩) NB661_676.out _).trans (((cell_far (p := ⟨gb676, _, none⟩) NB661_676.out _).trans (((cell_far (p := ⟨gb676, _, none⟩) NB661_676.out _).trans (((cell_far (p := ⟨gb676, _, none⟩) NB661_676.out _).trans (((cell_far (p := ⟨gb676, _, none⟩) NB661_676.out _).trans (hHeld.2.2.1)))))))))), ((cell_far (p := ⟨gb676, _, none⟩) NB661_676.out _).trans (((cell_far (p := ⟨gb676, _, none⟩) NB661_676.out _).trans (((cell_far (p := ⟨gb676, _, none⟩) NB661_676.out _).trans (((cell_far (p := ⟨gb676, _, none⟩) NB661_676.out _).trans (((cell_far (p := ⟨gb676, _, none⟩) NB661_676.out _).trans (hHeld.2.2.2.1)))))))))), ((cell_far (p := ⟨gb676, _, none⟩) NB661_676.out _).trans (((cell_far (p := ⟨gb676, _, none⟩) NB661_676.out _).trans (((cell_far (p := ⟨gb676, _, none⟩) NB661_676.out _).trans (((cell_far (p := ⟨gb676, _, none⟩) NB661_676.out _).trans (((cell_far (p := ⟨gb676, _, none⟩) NB661_676.out _).trans (hHeld.2.2.2.2.1)))))))))), ((cell_far (p := ⟨gb676, _, none⟩) (by first | exact Nat.ne_of_lt (Nat.lt_of_lt_of_le (by have := World.block_lt_of_cell? _ _ hw662_0; first | rwa [add_block] at this | exact this) GW676.out) | (rw [add_block]; exact Nat.ne_of_lt (Nat.lt_of_lt_of_le (by have := World.block_lt_of_cell? _ _ hw662_0; first | rwa [add_block] at this | exact this) GW676.out)) | (show (Addr.add _ _).block ≠ _; rw [add_block]; exact Nat.ne_of_lt (Nat.lt_of_lt_of_le (by have := World.block_lt_of_cell? _ _ hw662_0; first | rwa [add_block] at this | exact this) GW676.out)) | (dsimp only; exact Nat.ne_of_lt (Nat.lt_of_lt_of_le (by have := World.block_lt_of_cell? _ _ hw662_0; first | rwa [add_block] at this | exact this) GW676.out))) _).trans (((cell_far (p := ⟨gb676, _, none⟩) (by first | exact Nat.ne_of_lt (Nat.lt_of_lt_of_le (by have := World.block_lt_of_cell? _ _ hw662_0; first | rwa [add_block] at this | exact this) GW676.out) | (rw [add_block]; exact Nat.ne_of_lt (Nat.lt_of_lt_of_le (by have := World.block_lt_of_cell? _ _ hw662_0; first | rwa [add_block] at this | exact this) GW676.out)) | (show (Addr.add _ _).block ≠ _; rw [add_block]; exact Nat.ne_of_lt (Nat.lt_of_lt_of_le (by have := World.block_lt_of_cell? _ _ hw662_0; first | rwa [add_block] at this | exact this) GW676.out)) | (dsimp only; exact Nat.ne_of_lt (Nat.lt_of_lt_of_le (by have := World.block_lt_of_cell? _ _ hw662_0; first | rwa [add_block] at this | exact this) GW676.out))) _).trans (((cell_far (p := ⟨gb676, _, none⟩) (by first | exact Nat.ne_of_lt (Nat.lt_of_lt_of_le (by have := World.block_lt_of_cell? _ _ hw662_0; first | rwa [add_block] at this | exact this) GW676.out) | (rw [add_block]; exact Nat.ne_of_lt (Nat.lt_of_lt_of_le (by have := World.block_lt_of_cell? _ _ hw662_0; first | rwa [add_block] at this | exact this) GW676.out)) | (show (Addr.add _ _).block ≠ _; rw [add_block]; exact Nat.ne_of_lt (Nat.lt_of_lt_of_le (by have := World.block_lt_of_cell? _ _ hw662_0; first | rwa [add_block] at this | exact this) GW676.out)) | (dsimp only; exact Nat.ne_of_lt (Nat.lt_of_lt_of_le (by have := World.block_lt_of_cell? _ _ hw662_0; first | rwa [add_block] at this | exact this) GW676.out))) _).trans (((cell_far (p := ⟨gb676, _, none⟩) (by first | exact Nat.ne_of_lt (Nat.lt_of_lt_of_le (by have := World.block_lt_of_cell? _ _ hw662_0; first | rwa [add_block] at this | exact this) GW676.out) | (rw [add_block]; exact Nat.ne_of_lt (Nat.lt_of_lt_of_le (by have := World.block_lt_of_cell? _ _ hw662_0; first | rwa [add_block] at this | exact this) GW676.out)) | (show (Addr.add _ _).block ≠ _; rw [add_block]; exact Nat.ne_of_lt (Nat.lt_of_lt_of_le (by have := World.block_lt_of_cell? _ _ hw662_0; first | rwa [add_block] at this | exact this) GW676.out)) | (dsimp only; exact Nat.ne_of_lt (Nat.lt_of_lt_of_le (by have := World.block_lt_of_cell? _ _ hw662_0; first | rwa [add_block] at this | exact this) GW676.out))) _).trans (((cell_far (p := ⟨gb676, _, none⟩) (by first | exact Nat.ne_of_lt (Nat.lt_of_lt_of_le (by have := World.block_lt_of_cell? _ _ hw662_0; first | rwa [add_block] at this | exact this) GW676.out) | (rw [add_block]; exact Nat.ne_of_lt (Nat.lt_of_lt_of_le (by have := World.block_lt_of_cell? _ _ hw662_0; first | rwa [add_block] at this | exact this) GW676.out)) | (show (Addr.add _ _).block ≠ _; rw [add_block]; exact Nat.ne_of_lt (Nat.lt_of_lt_of_le (by have := World.block_lt_of_cell? _ _ hw662_0; first | rwa [add_block] at this | exact this) GW676.out)) | (dsimp only; exact Nat.ne_of_lt (Nat.lt_of_lt_of_le (by have := World.block_lt_of_cell? _ _ hw662_0; first | rwa [add_block] at this | exact this) GW676.out))) _).trans (hHeld.2.2.2.2.2.1)))))))))), ((cell_far (p := ⟨gb676, _, none⟩) (by first | exact Nat.ne_of_lt (Nat.lt_of_lt_of_le (by have := World.block_lt_of_cell? _ _ hw662_1; first | rwa [add_block] at this | exact this) GW676.out) | (rw [add_block]; exact Nat.ne_of_lt (Nat.lt_of_lt_of_le (by have := World.block_lt_of_cell? _ _ hw662_1; first | rwa [add_block] at this | exact this) GW676.out)) | (show (Addr.add _ _).block ≠ _; rw [add_block]; exact Nat.ne_of_lt (Nat.lt_of_lt_of_le (by have := World.block_lt_of_cell? _ _ hw662_1; first | rwa [add_block] at this | exact this) GW676.out)) | (dsimp only; exact Nat.ne_of_lt (Nat.lt_of_lt_of_le (by have := World.block_lt_of_cell? _ _ hw662_1; first | rwa [add_block] at this | exact this) GW676.out))) _).trans (((cell_far (p := ⟨gb676, _, none⟩) (by first | exact Nat.ne_of_lt (Nat.lt_of_lt_of_le (by have := World.block_lt_of_cell? _ _ hw662_1; first | rwa [add_block] at this | exact this) GW676.out) | (rw [add_block]; exact Nat.ne_of_lt (Nat.lt_of_lt_of_le (by have := World.block_lt_of_cell? _ _ hw662_1; first | rwa [add_block] at this | exact this) GW676.out)) | (show (Addr.add _ _).block ≠ _; rw [add_block]; exact Nat.ne_of_lt (Nat.lt_of_lt_of_le (by have := World.block_lt_of_cell? _ _ hw662_1; first | rwa [add_block] at this | exact this) GW676.out)) | (dsimp only; exact Nat.ne_of_lt (Nat.lt_of_lt_of_le (by have := World.block_lt_of_cell? _ _ hw662_1; first | rwa [add_block] at this | exact this) GW676.out))) _).trans (((cell_far (p := ⟨gb676, _, none⟩) (by first | exact Nat.ne_of_lt (Nat.lt_of_lt_of_le (by have := World.block_lt_of_cell? _ _ hw662_1; first | rwa [add_block] at this | exact this) GW676.out) | (rw [add_block]; exact Nat.ne_of_lt (Nat.lt_of_lt_of_le (by have := World.block_lt_of_cell? _ _ hw662_1; first | rwa [add_block] at this | exact this) GW676.out)) | (show (Addr.add _ _).block ≠ _; rw [add_block]; exact Nat.ne_of_lt (Nat.lt_of_lt_of_le (by have := World.block_lt_of_cell? _ _ hw662_1; first | rwa [add_block] at this | exact this) GW676.out)) | (dsimp only; exact Nat.ne_of_lt (Nat.lt_of_lt_of_le (by have := World.block_lt_of_cell? _ _ hw662_1; first | rwa [add_block] at this | exact this) GW676.out))) _).trans (((cell_far (p := ⟨gb676, _, none⟩) (by first | exact Nat.ne_of_lt (Nat.lt_of_lt_of_le (by have := World.block_lt_of_cell? _ _ hw662_1; first | rwa [add_block] at this | exact this) GW676.out) | (rw [add_block]; exact Nat.ne_of_lt (Nat.lt_of_lt_of_le (by have := World.block_lt_of_cell? _ _ hw662_1; first | rwa [add_block] at this | exact this) GW676.out)) | (show (Addr.add _ _).block ≠ _; rw [add_block]; exact Nat.ne_of_lt (Nat.lt_of_lt_of_le (by have := World.block_lt_of_cell? _ _ hw662_1; first | rwa [add_block] at this | exact this) GW676.out)) | (dsimp only; exact Nat.ne_of_lt (Nat.lt_of_lt_of_le (by have := World.block_lt_of_cell? _ _ hw662_1; first | rwa [add_block] at this | exact this) GW676.out))) _).trans (((cell_far (p := ⟨gb676, _, none⟩) (by first | exact Nat.ne_of_lt (Nat.lt_of_lt_of_le (by have := World.block_lt_of_cell? _ _ hw662_1; first | rwa [add_block] at this | exact this) GW676.out) | (rw [add_block]; exact Nat.ne_of_lt (Nat.lt_of_lt_of_le (by have := World.block_lt_of_cell? _ _ hw662_1; first | rwa [add_block] at this | exact this) GW676.out)) | (show (Addr.add _ _).block ≠ _; rw [add_block]; exact Nat.ne_of_lt (Nat.lt_of_lt_of_le (by have := World.block_lt_of_cell? _ _ hw662_1; first | rwa [add_block] at this | exact this) GW676.out)) | (dsimp only; exact Nat.ne_of_lt (Nat.lt_of_lt_of_le (by have := World.block_lt_of_cell? _ _ hw662_1; first | rwa [add_block] at this | exact this) GW676.out))) _).trans (hHeld.2.2.2.2.2.2.1)))))))))), ((cell_far (p := ⟨gb676, _, none⟩) (by first | exact Nat.ne_of_lt (Nat.lt_of_lt_of_le (by have := World.block_lt_of_cell? _ _ hw662_2; first | rwa [add_block] at this | exact this) GW676.out) | (rw [add_block]; exact Nat.ne_of_lt (Nat.lt_of_lt_of_le (by have := World.block_lt_of_cell? _ _ hw662_2; first | rwa [add_block] at this | exact this) GW676.out)) | (show (Addr.add _ _).block ≠ _; rw [add_block]; exact Nat.ne_of_lt (Nat.lt_of_lt_of_le (by have := World.block_lt_of_cell? _ _ hw662_2; first | rwa [add_block] at this | exact this) GW676.out)) | (dsimp only; exact Nat.ne_of_lt (Nat.lt_of_lt_of_le (by have := World.block_lt_of_cell? _ _ hw662_2; first | rwa [add_block] at this | exact this) GW676.out))) _).trans (((cell_far (p := ⟨gb676, _, none⟩) (by first | exact Nat.ne_of_lt (Nat.lt_of_lt_of_le (by have := World.block_lt_of_cell? _ _ hw662_2; first | rwa [add_block] at this | exact this) GW676.out) | (rw [add_block]; exact Nat.ne_of_lt (Nat.lt_of_lt_of_le (by have := World.block_lt_of_cell? _ _ hw662_2; first | rwa [add_block] at this | exact this) GW676.out)) | (show (Addr.add _ _).block ≠ _; rw [add_block]; exact Nat.ne_of_lt (Nat.lt_of_lt_of_le (by have := World.block_lt_of_cell? _ _ hw662_2; first | rwa [add_block] at this | exact this) GW676.out)) | (dsimp only; exact Nat.ne_of_lt (Nat.lt_of_lt_of_le (by have := World.block_lt_of_cell? _ _ hw662_2; first | rwa [add_block] at this | exact this) GW676.out))) _).trans (((cell_far (p := ⟨gb676, _, none⟩) (by first | exact Nat.ne_of_lt (Nat.lt_of_lt_of_le (by have := World.block_lt_of_cell? _ _ hw662_2; first | rwa [add_block] at this | exact this) GW676.out) | (rw [add_block]; exact Nat.ne_of_lt (Nat.lt_of_lt_of_le (by have := World.block_lt_of_cell? _ _ hw662_2; first | rwa [add_block] at this | exact this) GW676.out)) | (show (Addr.add _ _).block ≠ _; rw [add_block]; exact Nat.ne_of_lt (Nat.lt_of_lt_of_le (by have := World.block_lt_of_cell? _ _ hw662_2; first | rwa [add_block] at this | exact this) GW676.out)) | (dsimp only; exact Nat.ne_of_lt (Nat.lt_of_lt_of_le (by have := World.block_lt_of_cell? _ _ hw662_2; first | rwa [add_block] at this | exact this) GW676.out))) _).trans (((cell_far (p := ⟨gb676, _, none⟩) (by first | exact Nat.ne_of_lt (Nat.lt_of_lt_of_le (by have := World.block_lt_of_cell? _ _ hw662_2; first | rwa [add_block] at this | exact this) GW676.out) | (rw [add_block]; exact Nat.ne_of_lt (Nat.lt_of_lt_of_le (by have := World.block_lt_of_cell? _ _ hw662_2; first | rwa [add_block] at this | exact this) GW676.out)) | (show (Addr.add _ _).block ≠ _; rw [add_block]; exact Nat.ne_of_lt (Nat.lt_of_lt_of_le (by have := World.block_lt_of_cell? _ _ hw662_2; first | rwa [add_block] at this | exact this) GW676.out)) | (dsimp only; exact Nat.ne_of_lt (Nat.lt_of_lt_of_le (by have := World.block_lt_of_cell? _ _ hw662_2; first | rwa [add_block] at this | exact this) GW676.out))) _).trans (((cell_far (p := ⟨gb676, _, none⟩) (by first | exact Nat.ne_of_lt (Nat.lt_of_lt_of_le (by have := World.block_lt_of_cell? _ _ hw662_2; first | rwa [add_block] at this | exact this) GW676.out) | (rw [add_block]; exact Nat.ne_of_lt (Nat.lt_of_lt_of_le (by have := World.block_lt_of_cell? _ _ hw662_2; first | rwa [add_block] at this | exact this) GW676.out)) | (show (Addr.add _ _).block ≠ _; rw [add_block]; exact Nat.ne_of_lt (Nat.lt_of_lt_of_le (by have := World.block_lt_of_cell? _ _ hw662_2; first | rwa [add_block] at this | exact this) GW676.out)) | (dsimp only; exact Nat.ne_of_lt (Nat.lt_of_lt_of_le (by have := World.block_lt_of_cell? _ _ hw662_2; first | rwa [add_block] at this | exact this) GW676.out))) _).trans (hHeld.2.2.2.2.2.2.2.1)))))))))), ((cell_far (p := ⟨gb676, _, none⟩) (by first | exact Nat.ne_of_lt (Nat.lt_of_lt_of_le (by have := World.block_lt_of_cell? _ _ hw662_3; first | rwa [add_block] at this | exact this) GW676.out) | (rw [add_block]; exact Nat.ne_of_lt (Nat.lt_of_lt_of_le (by have := World.block_lt_of_cell? _ _ hw662_3; first | rwa [add_block] at this | exact this) GW676.out)) | (show (Addr.add _ _).block ≠ _; rw [add_block]; exact Nat.ne_of_lt (Nat.lt_of_lt_of_le (by have := World.block_lt_of_cell? _ _ hw662_3; first | rwa [add_block] at this | exact this) GW676.out)) | (dsimp only; exact Nat.ne_of_lt (Nat.lt_of_lt_of_le (by have := World.block_lt_of_cell? _ _ hw662_3; first | rwa [add_block] at this | exact this) GW676.out))) _).trans (((cell_far (p := ⟨gb676, _, none⟩) (by first | exact Nat.ne_of_lt (Nat.lt_of_lt_of_le (by have := World.block_lt_of_cell? _ _ hw662_3; first | rwa [add_block] at this | exact this) GW676.out) | (rw [add_block]; exact Nat.ne_of_lt (Nat.lt_of_lt_of_le (by have := World.block_lt_of_cell? _ _ hw662_3; first | rwa [add_block] at this | exact this) GW676.out)) | (show (Addr.add _ _).block ≠ _; rw [add_block]; exact Nat.ne_of_lt (Nat.lt_of_lt_of_le (by have := World.block_lt_of_cell? _ _ hw662_3; first | rwa [add_block] at this | exact this) GW676.out)) | (dsimp only; exact Nat.ne_of_lt (Nat.lt_of_lt_of_le (by have := World.block_lt_of_cell? _ _ hw662_3; first | rwa [add_block] at this | exact this) GW676.out))) _).trans (((cell_far (p := ⟨gb676, _, none⟩) (by first | exact Nat.ne_of_lt (Nat.lt_of_lt_of_le (by have := World.block_lt_of_cell? _ _ hw662_3; first | rwa [add_block] at this | exact this) GW676.out) | (rw [add_block]; exact Nat.ne_of_lt (Nat.lt_of_lt_of_le (by have := World.block_lt_of_cell? _ _ hw662_3; first | rwa [add_block] at this | exact this) GW676.out)) | (show (Addr.add _ _).block ≠ _; rw [add_block]; exact Nat.ne_of_lt (Nat.lt_of_lt_of_le (by have := World.block_lt_of_cell? _ _ hw662_3; first | rwa [add_block] at this | exact this) GW676.out)) | (dsimp only; exact Nat.ne_of_lt (Nat.lt_of_lt_of_le (by have := World.block_lt_of_cell? _ _ hw662_3; first | rwa [add_block] at this | exact this) GW676.out))) _).trans (((cell_far (p := ⟨gb676, _, none⟩) (by first | exact Nat.ne_of_lt (Nat.lt_of_lt_of_le (by have := World.block_lt_of_cell? _ _ hw662_3; first | rwa [add_block] at this | exact this) GW676.out) | (rw [add_block]; exact Nat.ne_of_lt (Nat.lt_of_lt_of_le (by have := World.block_lt_of_cell? _ _ hw662_3; first | rwa [add_block] at this | exact this) GW676.out)) | (show (Addr.add _ _).block ≠ _; rw [add_block]; exact Nat.ne_of_lt (Nat.lt_of_lt_of_le (by have := World.block_lt_of_cell? _ _ hw662_3; first | rwa [add_block] at this | exact this) GW676.out)) | (dsimp only; exact Nat.ne_of_lt (Nat.lt_of_lt_of_le (by have := World.block_lt_of_cell? _ _ hw662_3; first | rwa [add_block] at this | exact this) GW676.out))) _).trans (((cell_far (p := ⟨gb676, _, none⟩) (by first | exact Nat.ne_of_lt (Nat.lt_of_lt_of_le (by have := World.block_lt_of_cell? _ _ hw662_3; first | rwa [add_block] at this | exact this) GW676.out) | (rw [add_block]; exact Nat.ne_of_lt (Nat.lt_of_lt_of_le (by have := World.block_lt_of_cell? _ _ hw662_3; first | rwa [add_block] at this | exact this) GW676.out)) | (show (Addr.add _ _).block ≠ _; rw [add_block]; exact Nat.ne_of_lt (Nat.lt_of_lt_of_le (by have := World.block_lt_of_cell? _ _ hw662_3; first | rwa [add_block] at this | exact this) GW676.out)) | (dsimp only; exact Nat.ne_of_lt (Nat.lt_of_lt_of_le (by have := World.block_lt_of_cell? _ _ hw662_3; first | rwa [add_block] at this | exact this) GW676.out))) _).trans (hHeld.2.2.2.2.2.2.2.2))))))))))⟩ (fun hHeld => ?_)
       clear hK K
       refine pure_ (i := 12) (N := some 15) (v := ?_) (a' := ?_) #[true, true, true, true, true, true, true, true, true, true, true, true, true, false] rfl rfl (any_of HT_.out (by kernel_rfl)) (fun _ _ _ h => h) (Or.inl ⟨by rfl, ?_⟩) ?_ ?_
       rotate_left
       ·intro w'
        go_simp
        with_reducible rfl
       rotate_left
       ·simp only [Act.put, List.setIfInBounds_toArray, List.set_cons_zero, List.set_cons_succ, i64_w, i32_w]
        rfl
       refine pure_ (i := 13) (N := some 16) (v := ?_) (a' := ?_) #[true, true, true, true, true, true, true, true, true, true, true, true, true, true] rfl rfl (any_of HT_.out (by kernel_rfl)) (fun _ _ _ h => h) (Or.inl ⟨by rfl, ?_⟩) ?_ ?_
       rotate_left
       ·intro w'
        go_simp
        with_reducible rfl
       rotate_left
       ·simp only [Act.put, List.setIfInBounds_toArray, List.set_cons_zero, List.set_cons_succ, i64_w, i32_w]
        rfl
       refine done_ (done_of HT_.out (by kernel_rfl)) ?_
       have hnb57 := NB650_649.out
       have hnc57 := NB649_650.out
       have hnb58 := NB650_661.out
       have hnc58 := NB661_650.out
       have hnb59 := NB650_676.out
       have hnc59 := NB676_650.out
       obtain ⟨hcz60_0, hcz60_1, hcz60_2, hcz60_3, hcz60_4⟩ := cells5 BK650
       obtain ⟨hfz60_0, hfz60_1, hfz60_2, hfz60_3, hfz60_4⟩ := frz5 BK650
       try go_wp2
       refine bodyPost_ret (results_list (rs := [.cell 6 30, .tmp 7, .tmp 8, .tmp 9]) rfl (by simp) (.cell gb650 30 #[.int .i64 0, .int .i64 0, .int .i64 0, .slice none 0 0, .slice none 0 0] (0, 0) _ rfl (by (with_reducible repeat (first | refine blk_drewN ?_ _ | refine blk_drew ?_ | refine blk_alloc ?_ _)); refine blk_put (cs := #[.int .i64 0, .int .i64 0, .int .i64 0, .slice none 0 0, .slice none 0 0]) ?_ 4 _ rfl; (with_reducible repeat (first | refine blk_drewN ?_ _ | refine blk_drew ?_ | refine blk_alloc ?_ _)); refine blk_put (cs := #[.int .i64 0, .int .i64 0, .int .i64 0, .slice none 0 0, .slice none 0 0]) ?_ 3 _ rfl; (with_reducible repeat (first | refine blk_drewN ?_ _ | refine blk_drew ?_ | refine blk_alloc ?_ _)); refine blk_put (cs := #[.int .i64 0, .int .i64 0, .int .i64 x651002_1, .slice none 0 0, .slice none 0 0]) ?_ 2 _ rfl; (with_reducible repeat (first | refine blk_drewN ?_ _ | refine blk_drew ?_ | refine blk_alloc ?_ _)); refine blk_put (cs := #[.int .i64 0, .int .i64 x651001_1, .int .i64 x651002_1, .slice none 0 0, .slice none 0 0]) ?_ 1 _ rfl; (with_reducible repeat (first | refine blk_drewN ?_ _ | refine blk_drew ?_ | refine blk_alloc ?_ _)); refine blk_put (cs := #[.int .i64 x651000_1, .int .i64 x651001_1, .int .i64 x651002_1, .slice none 0 0, .slice none 0 0]) ?_ 0 _ rfl; (with_reducible repeat (first | refine blk_drewN ?_ _ | refine blk_drew ?_ | refine blk_alloc ?_ _)); refine blk_far ?_ NB650_676.out _; (with_reducible repeat (first | refine blk_drewN ?_ _ | refine blk_drew ?_ | refine blk_alloc ?_ _)); refine blk_far ?_ NB650_676.out _; (with_reducible repeat (first | refine blk_drewN ?_ _ | refine blk_drew ?_ | refine blk_alloc ?_ _)); refine blk_far ?_ NB650_676.out _; (with_reducible repeat (first | refine blk_drewN ?_ _ | refine blk_drew ?_ | refine blk_alloc ?_ _)); refine blk_far ?_ NB650_676.out _; (with_reducible repeat (first | refine blk_drewN ?_ _ | refine blk_drew ?_ | refine blk_alloc ?_ _)); refine blk_far ?_ NB650_676.out _; (with_reducible repeat (first | refine blk_drewN ?_ _ | refine blk_drew ?_ | refine blk_alloc ?_ _)); exact BK650.out) Try.underlying30 rfl (by kernel_rfl) (.tmp (.tmp (.tmp .nil))))) rfl ?_
       exact ⟨_, _, _, by first | rfl | (simp [errW_none, errW_some] <;> rfl) | (simp [*, errW_none, errW_some] <;> rfl), by first | exact Kd.R_nil _ _ _ _ _ | exact Kd.N_nil _ _ _ _ _ | exact Kd.V_nil _ _ _ _ _ | exact Kd.Q_nil _ _ _ _ _ | exact Kd.S_nil _ _ _ _ _, by first | exact Kd.R_nil _ _ _ _ _ | exact Kd.N_nil _ _ _ _ _ | exact Kd.V_nil _ _ _ _ _ | exact Kd.Q_nil _ _ _ _ _ | exact Kd.S_nil _ _ _ _ _, by first | exact Kd.R_nil _ _ _ _ _ | exact Kd.N_nil _ _ _ _ _ | exact Kd.V_nil _ _ _ _ _ | exact Kd.Q_nil _ _ _ _ _ | exact Kd.S_nil _ _ _ _ _, pB HB⟩
     ·rw [if_neg c18] at H
      exact absurd H (by simp)
    ·rw [if_neg c17] at H
     have c17b0 : decide (x13_1 < (l2.length : Int)) = false := decide_eq_false c17
     clear c17
     simp only [Option.some.injEq, Prod.mk.injEq] at H
     obtain ⟨rfl, rfl, rfl, rfl, rfl, rfl, rfl, rfl⟩ := H
     have hnb61 := NB661_649.out
     have hnc61 := NB649_661.out
     have hnb62 := NB661_650.out
     have hnc62 := NB650_661.out
     obtain ⟨hcz63_0, hcz63_1, hcz63_2, hcz63_3, hcz63_4⟩ := cells5 BK661
     obtain ⟨hfz63_0, hfz63_1, hfz63_2, hfz63_3, hfz63_4⟩ := frz5 BK661
     have hnb64 := NB650_649.out
     have hnc64 := NB649_650.out
     obtain ⟨hcz65_0, hcz65_1, hcz65_2, hcz65_3, hcz65_4⟩ := cells5 BK650
     obtain ⟨hfz65_0, hfz65_1, hfz65_2, hfz65_3, hfz65_4⟩ := frz5 BK650
     obtain ⟨Ao66, co66, eo66⟩ := Kd.R_slice HO_662003.out
     subst eo66
     obtain ⟨Ao67, co67, eo67⟩ := Kd.R_slice HO_662004.out
     subst eo67
     go_wp2
     refine bodyPost_ret (results_list (rs := [.cell 6 30, .tmp 7, .tmp 8, .tmp 9]) rfl (by simp) (.cell gb650 30 #[.int .i64 x662000_1, .int .i64 x662001_1, .int .i64 x662002_1, .slice Ao66 x662003_1.length co66, .slice Ao67 x662004_1.length co67] (0, 0) _ rfl (by (with_reducible repeat (first | refine blk_drewN ?_ _ | refine blk_drew ?_ | refine blk_alloc ?_ _)); refine blk_put (cs := #[.int .i64 x662000_1, .int .i64 x662001_1, .int .i64 x662002_1, .slice Ao66 x662003_1.length co66, .slice none 0 0]) ?_ 4 _ rfl; (with_reducible repeat (first | refine blk_drewN ?_ _ | refine blk_drew ?_ | refine blk_alloc ?_ _)); refine blk_put (cs := #[.int .i64 x662000_1, .int .i64 x662001_1, .int .i64 x662002_1, .slice none 0 0, .slice none 0 0]) ?_ 3 _ rfl; (with_reducible repeat (first | refine blk_drewN ?_ _ | refine blk_drew ?_ | refine blk_alloc ?_ _)); refine blk_put (cs := #[.int .i64 x662000_1, .int .i64 x662001_1, .int .i64 x651002_1, .slice none 0 0, .slice none 0 0]) ?_ 2 _ rfl; (with_reducible repeat (first | refine blk_drewN ?_ _ | refine blk_drew ?_ | refine blk_alloc ?_ _)); refine blk_put (cs := #[.int .i64 x662000_1, .int .i64 x651001_1, .int .i64 x651002_1, .slice none 0 0, .slice none 0 0]) ?_ 1 _ rfl; (with_reducible repeat (first | refine blk_drewN ?_ _ | refine blk_drew ?_ | refine blk_alloc ?_ _)); refine blk_put (cs := #[.int .i64 x651000_1, .int .i64 x651001_1, .int .i64 x651002_1, .slice none 0 0, .slice none 0 0]) ?_ 0 _ rfl; (with_reducible repeat (first | refine blk_drewN ?_ _ | refine blk_drew ?_ | refine blk_alloc ?_ _)); exact BK650.out) Try.underlying30 rfl (by kernel_rfl) (.tmp (.tmp (.tmp .nil))))) rfl ?_
     exact ⟨_, _, _, by first | rfl | (simp [errW_none, errW_some] <;> rfl) | (simp [*, errW_none, errW_some] <;> rfl), by (with_reducible repeat (first | apply Kd.R_alloc | apply Kd.R_drewN | apply Kd.R_drew)); exact Kd.R_mono (Kd.R_far (p := ⟨gb650, 4, none⟩) (Kd.R_far (p := ⟨gb650, 3, none⟩) (Kd.R_far (p := ⟨gb650, 2, none⟩) (Kd.R_far (p := ⟨gb650, 1, none⟩) (Kd.R_far (p := ⟨gb650, 0, none⟩) (Kd.R_types HO_662003.out BK650.out (by decide)) (fun _ hk => hk.2) (.int .i64 x662000_1)) (fun _ hk => hk.2) (.int .i64 x662001_1)) (fun _ hk => hk.2) (.int .i64 x662002_1)) (fun _ hk => hk.2) (.slice Ao66 x662003_1.length co66)) (fun _ hk => hk.2) (.slice Ao67 x662004_1.length co67)) (fun _ hk => trivial), by (with_reducible repeat (first | apply Kd.R_alloc | apply Kd.R_drewN | apply Kd.R_drew)); exact Kd.R_mono (Kd.R_far (p := ⟨gb650, 4, none⟩) (Kd.R_far (p := ⟨gb650, 3, none⟩) (Kd.R_far (p := ⟨gb650, 2, none⟩) (Kd.R_far (p := ⟨gb650, 1, none⟩) (Kd.R_far (p := ⟨gb650, 0, none⟩) (Kd.R_types HO_662004.out BK650.out (by decide)) (fun _ hk => hk.2) (.int .i64 x662000_1)) (fun _ hk => hk.2) (.int .i64 x662001_1)) (fun _ hk => hk.2) (.int .i64 x662002_1)) (fun _ hk => hk.2) (.slice Ao66 x662003_1.length co66)) (fun _ hk => hk.2) (.slice Ao67 x662004_1.length co67)) (fun _ hk => trivial), by (with_reducible repeat (first | apply Kd.R_alloc | apply Kd.R_drewN | apply Kd.R_drew)); exact Kd.R_mono (Kd.R_far (p := ⟨gb650, 4, none⟩) (Kd.R_far (p := ⟨gb650, 3, none⟩) (Kd.R_far (p := ⟨gb650, 2, none⟩) (Kd.R_far (p := ⟨gb650, 1, none⟩) (Kd.R_far (p := ⟨gb650, 0, none⟩) (Kd.R_types HO_12.out BK650.out (by decide)) (fun _ hk => hk.2) (.int .i64 x662000_1)) (fun _ hk => hk.2) (.int .i64 x662001_1)) (fun _ hk => hk.2) (.int .i64 x662002_1)) (fun _ hk => hk.2) (.slice Ao66 x662003_1.length co66)) (fun _ hk => hk.2) (.slice Ao67 x662004_1.length co67)) (fun _ hk => trivial), pB HB⟩
 ·rw [if_neg c5] at H
  have c5b0 : (t660 == 0) = false := beq_eq_false_iff_ne.mpr c5
  have c5b1 : (t660 != 0) = true := bne_iff_ne.mpr c5
  simp only [Option.some.injEq, Prod.mk.injEq] at H
  obtain ⟨rfl, rfl, rfl, rfl, rfl, rfl, rfl, rfl⟩ := H
  go_enter Try.func31, Try.ntmps31
  go_wp2_with (first | ((with_reducible refine gate_dst (N := 4) rfl ?_); refine boxE (N := 4) #[.int .i64 a1_0, .int .i64 a1_1, .slice A1_2 l1_2.length c1_2] 27 ?_; intro gb649 hg w68 hbox hb; have BK649 := Aside0.mk (hbox); have GW649 := gS HB hg; have GE649 := gS HB hg; replace HB := Aside0.mk (below_step (pB HB) hb); clear hb hbox hg) | ((with_reducible refine gate_dst (N := 6) rfl ?_); refine boxE (N := 6) #[.int .i64 0, .int .i64 0, .int .i64 0, .slice none 0 0, .slice none 0 0] 30 ?_; intro gb650 hg w69 hbox hb; have BK650 := Aside0.mk (hbox); have GW650 := gS HB hg; have GE650 := gS HB hg; have NB649_650 := nL BK649 hg; have NB650_649 := nG BK649 hg; replace BK649 := bB BK649 hb; replace HB := Aside0.mk (below_step (pB HB) hb); clear hb hbox hg; have hnb70 := NB649_650.out; have hnc70 := NB650_649.out; obtain ⟨hcz71_0, hcz71_1, hcz71_2⟩ := cells3 BK649; obtain ⟨hfz71_0, hfz71_1, hfz71_2⟩ := frz3 BK649) | ((with_reducible refine gate_callee (f := 22) rfl ?_); refine goesL_ (some 20) rfl rfl Try.func22 (by kernel_rfl) rfl #[.int .i64 a0, .agg #[.int .i64 a1_0, .int .i64 a1_1, .slice A1_2 l1_2.length c1_2]] rfl (by (try simp only [List.map_toArray, List.map_cons, List.map_nil]); first | done | rfl | (simp only [List.length_drop, List.length_take]; rfl)) ?_; (with_reducible refine (insolvencyref33_NewDocket.calls a0 a1_0 a1_1 _ _ l1_2 t651 t652 t653 t654 t657 t660 _ ?side1 ?side2 A4.out).mono ?_); (case side1 => exact cB HR1_2 HB); (case side2 => exact HC1_2.out); rintro e w72 ⟨v655, v658, rfl, ho0, ho1, hb⟩; refine ⟨_, rfl, ?_⟩; have HO656 := Aside0.mk (Kd.R_lower ho0 (below_size (pB HB))); have HO659 := Aside0.mk (Kd.R_lower ho1 (below_size (pB HB))); replace BK649 := bB BK649 hb; replace BK650 := bB BK650 hb; replace HB := Aside0.mk (below_step (pB HB) hb); (try clear hb); (try clear ho0); (try clear ho1)) | ((with_reducible refine gate_dst (N := 10) rfl ?_); refine boxE (N := 10) #[.int .i64 0, .int .i64 0, .int .i64 0, .slice none 0 0, .slice none 0 0] 30 ?_; intro gb661 hg w73 hbox hb; have BK661 := Aside0.mk (hbox); have GW661 := gS HB hg; have GE661 := gS HB hg; have NB649_661 := nL BK649 hg; have NB661_649 := nG BK649 hg; have NB650_661 := nL BK650 hg; have NB661_650 := nG BK650 hg; replace HO656 := rB HO656 hb; replace HO659 := rB HO659 hb; replace BK649 := bB BK649 hb; replace BK650 := bB BK650 hb; replace HB := Aside0.mk (below_step (pB HB) hb); clear hb hbox hg; have hnb74 := NB661_649.out; have hnc74 := NB649_661.out; have hnb75 := NB661_650.out; have hnc75 := NB650_661.out; obtain ⟨hcz76_0, hcz76_1, hcz76_2, hcz76_3, hcz76_4⟩ := cells5 BK661; obtain ⟨hfz76_0, hfz76_1, hfz76_2, hfz76_3, hfz76_4⟩ := frz5 BK661; obtain ⟨Ao77, co77, eo77⟩ := Kd.R_slice HO656.out; subst eo77; obtain ⟨Ao78, co78, eo78⟩ := Kd.R_slice HO659.out; subst eo78; obtain ⟨hcz79_0, hcz79_1, hcz79_2, hcz79_3, hcz79_4⟩ := cells5 BK650; obtain ⟨hfz79_0, hfz79_1, hfz79_2, hfz79_3, hfz79_4⟩ := frz5 BK650))
  refine bodyPost_ret (results_list (rs := [.cell 6 30, .tmp 7, .tmp 8, .tmp 9]) rfl (by simp) (.cell gb650 30 #[.int .i64 0, .int .i64 0, .int .i64 0, .slice none 0 0, .slice none 0 0] (0, 0) _ rfl (by (with_reducible repeat (first | refine blk_drewN ?_ _ | refine blk_drew ?_ | refine blk_alloc ?_ _)); refine blk_put (cs := #[.int .i64 0, .int .i64 0, .int .i64 0, .slice none 0 0, .slice none 0 0]) ?_ 4 _ rfl; (with_reducible repeat (first | refine blk_drewN ?_ _ | refine blk_drew ?_ | refine blk_alloc ?_ _)); refine blk_put (cs := #[.int .i64 0, .int .i64 0, .int .i64 0, .slice none 0 0, .slice none 0 0]) ?_ 3 _ rfl; (with_reducible repeat (first | refine blk_drewN ?_ _ | refine blk_drew ?_ | refine blk_alloc ?_ _)); refine blk_put (cs := #[.int .i64 0, .int .i64 0, .int .i64 0, .slice none 0 0, .slice none 0 0]) ?_ 2 _ rfl; (with_reducible repeat (first | refine blk_drewN ?_ _ | refine blk_drew ?_ | refine blk_alloc ?_ _)); refine blk_put (cs := #[.int .i64 0, .int .i64 0, .int .i64 0, .slice none 0 0, .slice none 0 0]) ?_ 1 _ rfl; (with_reducible repeat (first | refine blk_drewN ?_ _ | refine blk_drew ?_ | refine blk_alloc ?_ _)); refine blk_put (cs := #[.int .i64 0, .int .i64 0, .int .i64 0, .slice none 0 0, .slice none 0 0]) ?_ 0 _ rfl; (with_reducible repeat (first | refine blk_drewN ?_ _ | refine blk_drew ?_ | refine blk_alloc ?_ _)); refine blk_far ?_ NB650_661.out _; (with_reducible repeat (first | refine blk_drewN ?_ _ | refine blk_drew ?_ | refine blk_alloc ?_ _)); refine blk_far ?_ NB650_661.out _; (with_reducible repeat (first | refine blk_drewN ?_ _ | refine blk_drew ?_ | refine blk_alloc ?_ _)); refine blk_far ?_ NB650_661.out _; (with_reducible repeat (first | refine blk_drewN ?_ _ | refine blk_drew ?_ | refine blk_alloc ?_ _)); refine blk_far ?_ NB650_661.out _; (with_reducible repeat (first | refine blk_drewN ?_ _ | refine blk_drew ?_ | refine blk_alloc ?_ _)); refine blk_far ?_ NB650_661.out _; (with_reducible repeat (first | refine blk_drewN ?_ _ | refine blk_drew ?_ | refine blk_alloc ?_ _)); exact BK650.out) Try.underlying30 rfl (by kernel_rfl) (.tmp (.tmp (.tmp .nil))))) rfl ?_
  exact ⟨_, _, _, by first | rfl | (simp [errW_none, errW_some] <;> rfl) | (simp [*, errW_none, errW_some] <;> rfl), by first | exact Kd.R_nil _ _ _ _ _ | exact Kd.N_nil _ _ _ _ _ | exact Kd.V_nil _ _ _ _ _ | exact Kd.Q_nil _ _ _ _ _ | exact Kd.S_nil _ _ _ _ _, by first | exact Kd.R_nil _ _ _ _ _ | exact Kd.N_nil _ _ _ _ _ | exact Kd.V_nil _ _ _ _ _ | exact Kd.Q_nil _ _ _ _ _ | exact Kd.S_nil _ _ _ _ _, by first | exact Kd.R_nil _ _ _ _ _ | exact Kd.N_nil _ _ _ _ _ | exact Kd.V_nil _ _ _ _ _ | exact Kd.Q_nil _ _ _ _ _ | exact Kd.S_nil _ _ _ _ _, pB HB⟩

end Go.Proofs.Ytpfiecjacpbhkaa.D
