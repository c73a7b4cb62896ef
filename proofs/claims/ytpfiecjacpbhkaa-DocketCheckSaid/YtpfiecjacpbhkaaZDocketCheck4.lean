/- Part 4 of 5 of the proof of DocketCheck: texts of this claim put one behind the other by a program; each begins with its own words. -/
import Derived.Deep.RegionHeld3
import Derived.Test.YtpfiecjacpbhkaaZDocketCheck3
namespace Go.Proofs.Ytpfiecjacpbhkaa.D
open Go.RowKit Go.Proofs.YtpfiecjacpbhkaaW.PrintWords Go.Proofs.YtpfiecjacpbhkaaW.PrintLast Go.Proofs.YtpfiecjacpbhkaaW.PrintMore
attribute [local go_sem] max2_int min2_int max_two min_two max_three min_three max_four min_four
set_option linter.unusedVariables false
set_option linter.unusedSimpArgs false
def insolvencyref33_checkTerms.f (a0 : Int) (a1_0 : Int) (a1_1 : Int) (l1_2 : List Int) : Option (Int) := (insolvencyref33_day.f a0).bind fun t251 => (if t251 = true then (if (l1_2.length : Int) > 1000 then (some 2) else (if a1_0 < 1 then (some 1) else (if a1_0 > 250 then (some 1) else (if a1_1 < 1 then (some 1) else (if a1_1 > 250 then (some 1) else (some 0)))))) else (some 1))
set_option maxHeartbeats 8000000 in
set_option maxRecDepth 100000 in
theorem insolvencyref33_checkTerms.calls (a0 : Int) (a1_0 : Int) (a1_1 : Int) (A1_2 : Option Addr) (c1_2 : Nat) (l1_2 : List Int) (r : Int) (w : World) (hr1_2 : Kd.C (Kd.int .i64) w A1_2 l1_2.length l1_2) (hc1_2 : l1_2.length ≤ c1_2) (h : insolvencyref33_checkTerms.f a0 a1_0 a1_1 l1_2 = some r) :
  Calls Try.prog 40 #[.int .i64 a0, .agg #[.int .i64 a1_0, .int .i64 a1_1, .slice A1_2 l1_2.length c1_2]] w fun e w' => e = .returned (.int .i64 r) ∧ Below w.heap.size w w' := by
 have hu27 := Try.underlying27
 have HR1_2 := Aside0.mk hr1_2
 have HC1_2 := Aside0.mk hc1_2
 clear hr1_2 hc1_2
 have HB := Aside0.mk (Below.refl w.heap.size w)
 have H : ((insolvencyref33_day.f a0).bind fun t251 => (if t251 = true then (if (l1_2.length : Int) > 1000 then (some 2) else (if a1_0 < 1 then (some 1) else (if a1_0 > 250 then (some 1) else (if a1_1 < 1 then (some 1) else (if a1_1 > 250 then (some 1) else (some 0)))))) else (some 1))) = some r := h
 clear h
 replace H := Option.bind_eq_some_iff.mp H
 obtain ⟨t251, A30, H⟩ := H
 replace H : (if t251 = true then (if (l1_2.length : Int) > 1000 then (some 2) else (if a1_0 < 1 then (some 1) else (if a1_0 > 250 then (some 1) else (if a1_1 < 1 then (some 1) else (if a1_1 > 250 then (some 1) else (some 0)))))) else (some 1)) = some r := H
 have A3 := Aside0.mk A30
 clear A30
 by_cases c4 : t251 = true
 ·subst c4
  have H1 : (if (l1_2.length : Int) > 1000 then (some 2) else (if a1_0 < 1 then (some 1) else (if a1_0 > 250 then (some 1) else (if a1_1 < 1 then (some 1) else (if a1_1 > 250 then (some 1) else (some 0)))))) = some r := by rw [if_pos rfl] at H; exact H
  clear H
  have H := H1
  clear H1
  by_cases c5 : (l1_2.length : Int) > 1000
  ·rw [if_pos c5] at H
   have c5b0 : decide (1000 < (l1_2.length : Int)) = true := decide_eq_true c5
   have c5b1 : decide (1000 < l1_2.length) = true := decide_eq_true (by omega)
   clear c5
   obtain rfl := Option.some.inj H
   go_enter Try.func40, Try.ntmps40
   go_wp2_with (first | ((with_reducible refine gate_dst (N := 3) rfl ?_); refine boxE (N := 3) #[.int .i64 a1_0, .int .i64 a1_1, .slice A1_2 l1_2.length c1_2] 27 ?_; intro gb250 hg w6 hbox hb; have BK250 := Aside0.mk (hbox); have GW250 := gS HB hg; have GE250 := gS HB hg; replace HB := Aside0.mk (below_step (pB HB) hb); clear hb hbox hg) | ((with_reducible refine gate_callee (f := 44) rfl ?_); refine goesL_ (some 6) rfl rfl Try.func44 (by kernel_rfl) rfl #[.int .i64 a0] rfl (by (try simp only [List.map_toArray, List.map_cons, List.map_nil]); first | done | rfl | (simp only [List.length_drop, List.length_take]; rfl)) ?_; (with_reducible refine (insolvencyref33_day.calls a0 true _ A3.out).mono ?_); rintro e w' ⟨rfl, ⟨nd, rfl⟩⟩; refine ⟨_, rfl, ?_⟩; obtain ⟨hcz7_0, hcz7_1, hcz7_2⟩ := cells3 BK250; obtain ⟨hfz7_0, hfz7_1, hfz7_2⟩ := frz3 BK250))
   go_ret
   exact ⟨by first | rfl | (simp [errW_none, errW_some] <;> rfl) | (simp [*, errW_none, errW_some] <;> rfl), pB HB⟩
  ·rw [if_neg c5] at H
   have c5b0 : decide (1000 < (l1_2.length : Int)) = false := decide_eq_false c5
   have c5b1 : decide (1000 < l1_2.length) = false := decide_eq_false (by omega)
   clear c5
   by_cases c8 : a1_0 < 1
   ·rw [if_pos c8] at H
    have c8b0 : decide (a1_0 < 1) = true := decide_eq_true c8
    clear c8
    obtain rfl := Option.some.inj H
    go_enter Try.func40, Try.ntmps40
    go_wp2_with (first | ((with_reducible refine gate_dst (N := 3) rfl ?_); refine boxE (N := 3) #[.int .i64 a1_0, .int .i64 a1_1, .slice A1_2 l1_2.length c1_2] 27 ?_; intro gb250 hg w9 hbox hb; have BK250 := Aside0.mk (hbox); have GW250 := gS HB hg; have GE250 := gS HB hg; replace HB := Aside0.mk (below_step (pB HB) hb); clear hb hbox hg) | ((with_reducible refine gate_callee (f := 44) rfl ?_); refine goesL_ (some 6) rfl rfl Try.func44 (by kernel_rfl) rfl #[.int .i64 a0] rfl (by (try simp only [List.map_toArray, List.map_cons, List.map_nil]); first | done | rfl | (simp only [List.length_drop, List.length_take]; rfl)) ?_; (with_reducible refine (insolvencyref33_day.calls a0 true _ A3.out).mono ?_); rintro e w' ⟨rfl, ⟨nd, rfl⟩⟩; refine ⟨_, rfl, ?_⟩; obtain ⟨hcz10_0, hcz10_1, hcz10_2⟩ := cells3 BK250; obtain ⟨hfz10_0, hfz10_1, hfz10_2⟩ := frz3 BK250))
    go_ret
    exact ⟨by first | rfl | (simp [errW_none, errW_some] <;> rfl) | (simp [*, errW_none, errW_some] <;> rfl), pB HB⟩
   ·rw [if_neg c8] at H
    have c8b0 : decide (a1_0 < 1) = false := decide_eq_false c8
    clear c8
    by_cases c11 : a1_0 > 250
    ·rw [if_pos c11] at H
     have c11b0 : decide (250 < a1_0) = true := decide_eq_true c11
     clear c11
     obtain rfl := Option.some.inj H
     go_enter Try.func40, Try.ntmps40
     go_wp2_with (first | ((with_reducible refine gate_dst (N := 3) rfl ?_); refine boxE (N := 3) #[.int .i64 a1_0, .int .i64 a1_1, .slice A1_2 l1_2.length c1_2] 27 ?_; intro gb250 hg w12 hbox hb; have BK250 := Aside0.mk (hbox); have GW250 := gS HB hg; have GE250 := gS HB hg; replace HB := Aside0.mk (below_step (pB HB) hb); clear hb hbox hg) | ((with_reducible refine gate_callee (f := 44) rfl ?_); refine goesL_ (some 6) rfl rfl Try.func44 (by kernel_rfl) rfl #[.int .i64 a0] rfl (by (try simp only [List.map_toArray, List.map_cons, List.map_nil]); first | done | rfl | (simp only [List.length_drop, List.length_take]; rfl)) ?_; (with_reducible refine (insolvencyref33_day.calls a0 true _ A3.out).mono ?_); rintro e w' ⟨rfl, ⟨nd, rfl⟩⟩; refine ⟨_, rfl, ?_⟩; obtain ⟨hcz13_0, hcz13_1, hcz13_2⟩ := cells3 BK250; obtain ⟨hfz13_0, hfz13_1, hfz13_2⟩ := frz3 BK250))
     go_ret
     exact ⟨by first | rfl | (simp [errW_none, errW_some] <;> rfl) | (simp [*, errW_none, errW_some] <;> rfl), pB HB⟩
    ·rw [if_neg c11] at H
     have c11b0 : decide (250 < a1_0) = false := decide_eq_false c11
     clear c11
     by_cases c14 : a1_1 < 1
     ·rw [if_pos c14] at H
      have c14b0 : decide (a1_1 < 1) = true := decide_eq_true c14
      clear c14
      obtain rfl := Option.some.inj H
      go_enter Try.func40, Try.ntmps40
      go_wp2_with (first | ((with_reducible refine gate_dst (N := 3) rfl ?_); refine boxE (N := 3) #[.int .i64 a1_0, .int .i64 a1_1, .slice A1_2 l1_2.length c1_2] 27 ?_; intro gb250 hg w15 hbox hb; have BK250 := Aside0.mk (hbox); have GW250 := gS HB hg; have GE250 := gS HB hg; replace HB := Aside0.mk (below_step (pB HB) hb); clear hb hbox hg) | ((with_reducible refine gate_callee (f := 44) rfl ?_); refine goesL_ (some 6) rfl rfl Try.func44 (by kernel_rfl) rfl #[.int .i64 a0] rfl (by (try simp only [List.map_toArray, List.map_cons, List.map_nil]); first | done | rfl | (simp only [List.length_drop, List.length_take]; rfl)) ?_; (with_reducible refine (insolvencyref33_day.calls a0 true _ A3.out).mono ?_); rintro e w' ⟨rfl, ⟨nd, rfl⟩⟩; refine ⟨_, rfl, ?_⟩; obtain ⟨hcz16_0, hcz16_1, hcz16_2⟩ := cells3 BK250; obtain ⟨hfz16_0, hfz16_1, hfz16_2⟩ := frz3 BK250))
      go_ret
      exact ⟨by first | rfl | (simp [errW_none, errW_some] <;> rfl) | (simp [*, errW_none, errW_some] <;> rfl), pB HB⟩
     ·rw [if_neg c14] at H
      have c14b0 : decide (a1_1 < 1) = false := decide_eq_false c14
      clear c14
      by_cases c17 : a1_1 > 250
      ·rw [if_pos c17] at H
       have c17b0 : decide (250 < a1_1) = true := decide_eq_true c17
       clear c17
       obtain rfl := Option.some.inj H
       go_enter Try.func40, Try.ntmps40
       go_wp2_with (first | ((with_reducible refine gate_dst (N := 3) rfl ?_); refine boxE (N := 3) #[.int .i64 a1_0, .int .i64 a1_1, .slice A1_2 l1_2.length c1_2] 27 ?_; intro gb250 hg w18 hbox hb; have BK250 := Aside0.mk (hbox); have GW250 := gS HB hg; have GE250 := gS HB hg; replace HB := Aside0.mk (below_step (pB HB) hb); clear hb hbox hg) | ((with_reducible refine gate_callee (f := 44) rfl ?_); refine goesL_ (some 6) rfl rfl Try.func44 (by kernel_rfl) rfl #[.int .i64 a0] rfl (by (try simp only [List.map_toArray, List.map_cons, List.map_nil]); first | done | rfl | (simp only [List.length_drop, List.length_take]; rfl)) ?_; (with_reducible refine (insolvencyref33_day.calls a0 true _ A3.out).mono ?_); rintro e w' ⟨rfl, ⟨nd, rfl⟩⟩; refine ⟨_, rfl, ?_⟩; obtain ⟨hcz19_0, hcz19_1, hcz19_2⟩ := cells3 BK250; obtain ⟨hfz19_0, hfz19_1, hfz19_2⟩ := frz3 BK250))
       go_ret
       exact ⟨by first | rfl | (simp [errW_none, errW_some] <;> rfl) | (simp [*, errW_none, errW_some] <;> rfl), pB HB⟩
      ·rw [if_neg c17] at H
       have c17b0 : decide (250 < a1_1) = false := decide_eq_false c17
       clear c17
       obtain rfl := Option.some.inj H
       go_enter Try.func40, Try.ntmps40
       go_wp2_with (first | ((with_reducible refine gate_dst (N := 3) rfl ?_); refine boxE (N := 3) #[.int .i64 a1_0, .int .i64 a1_1, .slice A1_2 l1_2.length c1_2] 27 ?_; intro gb250 hg w20 hbox hb; have BK250 := Aside0.mk (hbox); have GW250 := gS HB hg; have GE250 := gS HB hg; replace HB := Aside0.mk (below_step (pB HB) hb); clear hb hbox hg) | ((with_reducible refine gate_callee (f := 44) rfl ?_); refine goesL_ (some 6) rfl rfl Try.func44 (by kernel_rfl) rfl #[.int .i64 a0] rfl (by (try simp only [List.map_toArray, List.map_cons, List.map_nil]); first | done | rfl | (simp only [List.length_drop, List.length_take]; rfl)) ?_; (with_reducible refine (insolvencyref33_day.calls a0 true _ A3.out).mono ?_); rintro e w' ⟨rfl, ⟨nd, rfl⟩⟩; refine ⟨_, rfl, ?_⟩; obtain ⟨hcz21_0, hcz21_1, hcz21_2⟩ := cells3 BK250; obtain ⟨hfz21_0, hfz21_1, hfz21_2⟩ := frz3 BK250))
       go_ret
       exact ⟨by first | rfl | (simp [errW_none, errW_some] <;> rfl) | (simp [*, errW_none, errW_some] <;> rfl), pB HB⟩
 ·replace c4 := Bool.eq_false_iff.mpr c4
  subst c4
  have H1 : (some 1) = some r := by rw [if_neg (show ¬ (false = true) by decide)] at H; exact H
  clear H
  have H := H1
  clear H1
  obtain rfl := Option.some.inj H
  go_enter Try.func40, Try.ntmps40
  go_wp2_with (first | ((with_reducible refine gate_dst (N := 3) rfl ?_); refine boxE (N := 3) #[.int .i64 a1_0, .int .i64 a1_1, .slice A1_2 l1_2.length c1_2] 27 ?_; intro gb250 hg w22 hbox hb; have BK250 := Aside0.mk (hbox); have GW250 := gS HB hg; have GE250 := gS HB hg; replace HB := Aside0.mk (below_step (pB HB) hb); clear hb hbox hg) | ((with_reducible refine gate_callee (f := 44) rfl ?_); refine goesL_ (some 6) rfl rfl Try.func44 (by kernel_rfl) rfl #[.int .i64 a0] rfl (by (try simp only [List.map_toArray, List.map_cons, List.map_nil]); first | done | rfl | (simp only [List.length_drop, List.length_take]; rfl)) ?_; (with_reducible refine (insolvencyref33_day.calls a0 false _ A3.out).mono ?_); rintro e w' ⟨rfl, ⟨nd, rfl⟩⟩; refine ⟨_, rfl, ?_⟩))
  go_ret
  exact ⟨by first | rfl | (simp [errW_none, errW_some] <;> rfl) | (simp [*, errW_none, errW_some] <;> rfl), pB HB⟩
end Go.Proofs.Ytpfiecjacpbhkaa.D

namespace Go.Proofs.Ytpfiecjacpbhkaa.D
open Go.RowKit Go.Proofs.YtpfiecjacpbhkaaW.PrintWords Go.Proofs.YtpfiecjacpbhkaaW.PrintLast Go.Proofs.YtpfiecjacpbhkaaW.PrintMore
attribute [local go_sem] max2_int min2_int max_two min_two max_three min_three max_four min_four
set_option linter.unusedVariables false
set_option linter.unusedSimpArgs false
def insolvencyref33_NewDocket.f (a0 : Int) (a1_0 : Int) (a1_1 : Int) (l1_2 : List Int) : Option (Int × Int × Int × List Int × (List (S50)) × Int) := (insolvencyref33_checkTerms.f a0 a1_0 a1_1 l1_2).bind fun t254 => (if t254 = 0 then ((some (([] : List Int) : List Int)).bind fun y255 => (if y255.length + l1_2.length < 17592186044416 then (some (a0, a1_0, a1_1, (y255 ++ l1_2), ([] : List (S50)), 0)) else (none))) else (some (0, 0, 0, ([] : List Int), ([] : List (S50)), t254)))
def insolvencyref33_NewDocket.T4 : Bool × List (List Nat × List Nat) := (true, [([], []), ([], []), ([1], [1]), ([], []), ([3], [3]), ([], []), ([], []), ([6], [6]), ([5, 7], [5, 7]), ([2, 4, 8], [2, 4, 8]), ([0, 9], [0, 9]), ([10, 8, 0, 1, 2, 3, 4, 5, 6, 7, 8, 9, 10], [10]), ([11, 0, 1, 2, 3, 4, 5, 6, 7, 8, 9, 10, 11], [])])
def insolvencyref33_NewDocket.B4 : List Nat := [0, 0, 2, 0, 8, 0, 0, 64, 224, 510, 1023, 2047, 4095]
theorem insolvencyref33_NewDocket.tab4 : rtab .any (opsOf Try.f22 4) = insolvencyref33_NewDocket.T4 := by kernel_rfl
theorem insolvencyref33_NewDocket.bits4 : waitsOk insolvencyref33_NewDocket.T4.2 insolvencyref33_NewDocket.B4 = true := by kernel_rfl
set_option maxHeartbeats 8000000 in
set_option maxRecDepth 100000 in
theorem insolvencyref33_NewDocket.calls (a0 : Int) (a1_0 : Int) (a1_1 : Int) (A1_2 : Option Addr) (c1_2 : Nat) (l1_2 : List Int) (r1 : Int) (r2 : Int) (r3 : Int) (r4 : List Int) (r5 : List (S50)) (r6 : Int) (w : World) (hr1_2 : Kd.C (Kd.int .i64) w A1_2 l1_2.length l1_2) (hc1_2 : l1_2.length ≤ c1_2) (h : insolvencyref33_NewDocket.f a0 a1_0 a1_1 l1_2 = some (r1, r2, r3, r4, r5, r6)) :
  Calls Try.prog 22 #[.int .i64 a0, .agg #[.int .i64 a1_0, .int .i64 a1_1, .slice A1_2 l1_2.length c1_2]] w fun e w' => ∃ v3_ v4_ : Value, e = .returned (.tuple #[.agg #[.int .i64 r1, .int .i64 r2, .int .i64 r3, v3_, v4_], .int .i64 r6]) ∧ Kd.R (Kd.int .i64) 3 w' w.heap.size (fun _ => True) v3_ r4 ∧ Kd.R k50 50 w' w.heap.size (fun _ => True) v4_ r5 ∧ Below w.heap.size w w' := by
 have hu27 := Try.underlying27
 have hu30 := Try.underlying30
 have HR1_2 := Aside0.mk hr1_2
 have HC1_2 := Aside0.mk hc1_2
 clear hr1_2 hc1_2
 have HB := Aside0.mk (Below.refl w.heap.size w)
 have H : ((insolvencyref33_checkTerms.f a0 a1_0 a1_1 l1_2).bind fun t254 => (if t254 = 0 then ((some (([] : List Int) : List Int)).bind fun y255 => (if y255.length + l1_2.length < 17592186044416 then (some (a0, a1_0, a1_1, (y255 ++ l1_2), ([] : List (S50)), 0)) else (none))) else (some (0, 0, 0, ([] : List Int), ([] : List (S50)), t254)))) = some (r1, r2, r3, r4, r5, r6) := h
 clear h
 replace H := Option.bind_eq_some_iff.mp H
 obtain ⟨t254, A30, H⟩ := H
 replace H : (if t254 = 0 then ((some (([] : List Int) : List Int)).bind fun y255 => (if y255.length + l1_2.length < 17592186044416 then (some (a0, a1_0, a1_1, (y255 ++ l1_2), ([] : List (S50)), 0)) else (none))) else (some (0, 0, 0, ([] : List Int), ([] : List (S50)), t254))) = some (r1, r2, r3, r4, r5, r6) := H
 have A3 := Aside0.mk A30
 clear A30
 by_cases c4 : t254 = 0
 ·rw [if_pos c4] at H
  have c4b0 : (t254 == 0) = true := beq_iff_eq.mpr c4
  have c4b1 : (t254 != 0) = false := bne_eq_false_iff_eq.mpr c4
  clear c4
  obtain ⟨y255, hy255⟩ : ∃ y_ : List Int, y_ = (([] : List Int)) := ⟨_, rfl⟩
  replace H : (if y255.length + l1_2.length < 17592186044416 then (some (a0, a1_0, a1_1, (y255 ++ l1_2), ([] : List (S50)), 0)) else (none)) = some (r1, r2, r3, r4, r5, r6) := by first | (rw [hy255]; with_reducible exact H) | (have H2_ := (Option.bind_some _ _).symm.trans H; rw [hy255]; with_reducible exact H2_) | (have H2_ := (Option.bind_some _ _).symm.trans H; with_reducible exact H2_) | with_reducible exact H | (rw [hy255]; exact H) | exact H
  have Ny255 := Aside0.mk hy255
  clear hy255
  by_cases c5 : y255.length + l1_2.length < 17592186044416
  ·rw [if_pos c5] at H
   have LMc5 := Aside0.mk c5
   clear c5
   obtain ⟨y258, hy258⟩ : ∃ y_ : List Int, y_ = (y255 ++ l1_2) := ⟨_, rfl⟩
   replace H : (some (a0, a1_0, a1_1, y258, ([] : List (S50)), 0)) = some (r1, r2, r3, r4, r5, r6) := by first | (rw [hy258]; with_reducible exact H) | (have H2_ := (Option.bind_some _ _).symm.trans H; rw [hy258]; with_reducible exact H2_) | (have H2_ := (Option.bind_some _ _).symm.trans H; with_reducible exact H2_) | with_reducible exact H | (rw [hy258]; exact H) | exact H
   have Ny258 := Aside0.mk hy258
   clear hy258
   simp only [Option.some.injEq, Prod.mk.injEq] at H
   obtain ⟨rfl, rfl, rfl, rfl, rfl, rfl⟩ := H
   go_enter Try.func22, Try.ntmps22
   try go_wp2_with (first | ((with_reducible refine gate_dst (N := 3) rfl ?_); refine boxE (N := 3) #[.int .i64 a1_0, .int .i64 a1_1, .slice A1_2 l1_2.length c1_2] 27 ?_; intro gb252 hg w6 hbox hb; have BK252 := Aside0.mk (hbox); have GW252 := gS HB hg; have GE252 := gS HB hg; replace HB := Aside0.mk (below_step (pB HB) hb); clear hb hbox hg) | ((with_reducible refine gate_dst (N := 4) rfl ?_); refine boxE (N := 4) #[.int .i64 0, .int .i64 0, .int .i64 0, .slice none 0 0, .slice none 0 0] 30 ?_; intro gb253 hg w7 hbox hb; have BK253 := Aside0.mk (hbox); have GW253 := gS HB hg; have GE253 := gS HB hg; have NB252_253 := nL BK252 hg; have NB253_252 := nG BK252 hg; replace BK252 := bB BK252 hb; replace HB := Aside0.mk (below_step (pB HB) hb); clear hb hbox hg; have hnb8 := NB252_253.out; have hnc8 := NB253_252.out; obtain ⟨hcz9_0, hcz9_1, hcz9_2⟩ := cells3 BK252; obtain ⟨hfz9_0, hfz9_1, hfz9_2⟩ := frz3 BK252) | ((with_reducible refine gate_callee (f := 40) rfl ?_); refine goesL_ (some 9) rfl rfl Try.func40 (by kernel_rfl) rfl #[.int .i64 a0, .agg #[.int .i64 a1_0, .int .i64 a1_1, .slice A1_2 l1_2.length c1_2]] rfl (by (try simp only [List.map_toArray, List.map_cons, List.map_nil]); first | done | rfl | (simp only [List.length_drop, List.length_take]; rfl)) ?_; (with_reducible refine (insolvencyref33_checkTerms.calls a0 a1_0 a1_1 _ _ l1_2 t254 _ ?side1 ?side2 A3.out).mono ?_); (case side1 => exact cB HR1_2 HB); (case side2 => exact HC1_2.out); rintro e w10 ⟨rfl, hb⟩; refine ⟨_, rfl, ?_⟩; replace BK252 := bB BK252 hb; replace BK253 := bB BK253 hb; replace HB := Aside0.mk (below_step (pB HB) hb); (try clear hb)))
   replace BK252 := Aside0.mk (blk_drew BK252.out)
   replace BK253 := Aside0.mk (blk_drew BK253.out)
   replace HB := Aside0.mk (below_drew1 HB.out)
   refine start_ (n := 13) (S := fun w' => w'.cell? ⟨gb252, 0, none⟩ = some (.int .i64 a1_0) ∧ w'.cell? ⟨gb252, 1, none⟩ = some (.int .i64 a1_1) ∧ w'.cell? ⟨gb252, 2, none⟩ = some (.slice A1_2 l1_2.length c1_2)) (ds := []) #[false, false, false, false, false, false, false, false, false, false, false, false, false] (by kernel_rfl) rfl rfl ⟨(blk_cell BK252.out 0).trans rfl, (blk_cell BK252.out 1).trans rfl, (blk_cell BK252.out 2).trans rfl⟩ (fun hHeld => ?_); refine with_tabW insolvencyref33_NewDocket.tab4 insolvencyref33_NewDocket.bits4 (fun HT_ HW_ => ?_)
   generalize w10.drew = w11 at BK252 BK253 HB hHeld ⊢
   refine pure_ (i := 0) (N := some 14) (v := ?_) (a' := ?_) #[true, false, false, false, false, false, false, false, false, false, false, false, false] rfl rfl (any_of HT_.out (by kernel_rfl)) (fun _ _ _ h => h) (Or.inl ⟨by rfl, ?_⟩) ?_ ?_
   rotate_left
   ·intro w'
    go_simp
    with_reducible rfl
   rotate_left
   ·simp only [Act.put, sT, sZ, sU, i64_w, i32_w]
    rfl
   refine pure_ (i := 1) (N := some 15) (v := ?_) (a' := ?_) #[true, true, false, false, false, false, false, false, false, false, false, false, false] rfl rfl (any_of HT_.out (by kernel_rfl)) (fun _ _ _ h => h) (Or.inl ⟨by rfl, ?_⟩) ?_ ?_
   rotate_left
   ·intro w'
    go_simp
    with_reducible rfl
   rotate_left
   ·simp only [Act.put, sT, sZ, sU, i64_w, i32_w]
    rfl
   refine pure_ (i := 3) (N := some 17) (v := ?_) (a' := ?_) #[true, true, false, true, false, false, false, false, false, false, false, false, false] rfl rfl (any_of HT_.out (by kernel_rfl)) (fun _ _ _ h => h) (Or.inl ⟨by rfl, ?_⟩) ?_ ?_
   rotate_left
   ·intro w'
    go_simp
    with_reducible rfl
   rotate_left
   ·simp only [Act.put, sT, sZ, sU, i64_w, i32_w]
    rfl
   refine pure_ (i := 6) (N := some 20) (v := ?_) (a' := ?_) #[true, true, false, true, false, false, true, false, false, false, false, false, false] rfl rfl (any_of HT_.out (by kernel_rfl)) (fun _ _ _ h => h) (Or.inl ⟨by rfl, ?_⟩) ?_ ?_
   rotate_left
   ·intro w'
    go_simp
    with_reducible rfl
   rotate_left
   ·simp only [Act.put, sT, sZ, sU, i64_w, i32_w]
    rfl
   refine take_ (i := 2) (N := some 16) (v := ?_) (a' := ?_) #[true, true, true, true, false, false, true, false, false, false, false, false, false] rfl rfl (take_ofW HT_.out HW_.out (by kernel_rfl)) (fun _ _ _ h => h) (Or.inl ⟨by rfl, ?_⟩) hHeld ?_ ?_
   rotate_left
   ·rintro w' ⟨s0, s1, s2⟩
    go_simp
    with_reducible rfl
   rotate_left
   ·simp only [Act.put, sT, sZ, sU, i64_w, i32_w]
    rfl
   refine take_ (i := 4) (N := some 18) (v := ?_) (a' := ?_) #[true, true, true, true, true, false, true, false, false, false, false, false, false] rfl rfl (take_ofW HT_.out HW_.out (by kernel_rfl)) (fun _ _ _ h => h) (Or.inl ⟨by rfl, ?_⟩) hHeld ?_ ?_
   rotate_left
   ·rintro w' ⟨s0, s1, s2⟩
    go_simp
    with_reducible rfl
   rotate_left
   ·simp only [Act.put, sT, sZ, sU, i64_w, i32_w]
    rfl
   refine take_ (i := 7) (N := some 21) (v := ?_) (a' := ?_) #[true, true, true, true, true, false, true, true, false, false, false, false, false] rfl rfl (take_ofW HT_.out HW_.out (by kernel_rfl)) (fun _ _ _ h => h) (Or.inl ⟨by rfl, ?_⟩) hHeld ?_ ?_
   rotate_left
   ·rintro w' ⟨s0, s1, s2⟩
    go_simp
    with_reducible rfl
   rotate_left
   ·simp only [Act.put, sT, sZ, sU, i64_w, i32_w]
    rfl
   refine one_ (i := 5) (N := some 19) #[true, true, true, true, true, true, true, true, false, false, false, false, false] rfl rfl (one_of HT_.out (by kernel_rfl)) (by decide) (fun K hK => ?_)
   refine Kd.R_lit_step (Kd.int .i64) _ 3 ?hg (N := 19) ?hd (xs := ([] : List Int)) (inner := []) (ok := fun _ => True) (okp := fun _ => True) ?hr ?hp (fun _ hk => hk) trivial (Below.refl _ _) (Nat.le_refl _) (by simp) ?_; (case hd => rfl); (case hg => rfl); (case hr => first | (go_simp; done) | (go_simp; rfl)); (case hp => exact (Reps.none _ _))
   intro v256 w12 ho13 hb hg_ hnew_
   clear hg_ hnew_
   (first | rw [← Ny255.out] at ho13 | (simp only [Int.reduceToNat] at ho13; rw [← Ny255.out] at ho13))
   have HO257 := Aside0.mk (Kd.R_lower ho13 (below_size (pB HB)))
   replace BK252 := bB BK252 hb
   replace BK253 := bB BK253 hb
   replace HB := Aside0.mk (below_step (pB HB) hb)
   clear hb ho13
   refine hK.out _ _ ⟨(blk_cell BK252.out 0).trans rfl, (blk_cell BK252.out 1).trans rfl, (blk_cell BK252.out 2).trans rfl⟩ (fun hHeld => ?_)
   clear hK K
   refine norm_ (a' := ?_) ?_ ?_
   rotate_left
   ·show Act.put _ (some 19) _ = _
    simp only [Act.put, sT, sZ, sU, i64_w, i32_w]
    rfl
   refine one_ (i := 8) (N := some 22) #[true, true, true, true, true, true, true, true, true, false, false, false, false] rfl rfl (one_of HT_.out (by kernel_rfl)) (by decide) (fun K hK => ?_)
   refine Kd.R_append_rows_step (Kd.int .i64) (w0 := w) w.heap.size (by rfl) (.tmp 19) (.tmp 21) 25 3 (.int .i64 0) 8 rfl Try.underlying25 info3 rfl (by decide) (by omega) v256 y255 l1_2 _ _ _ (fun _ => True) (fun _ => False) rfl rfl ?aO ?aR (fun _ _ h => h) (fun _ h => h.elim) ?aF ?aB ?aS ?aL ?_
   (case aR => exact cB HR1_2 HB)
   (case aB => exact (pB HB))
   (case aF => exact (fun _ _ => trivial))
   (case aO => exact (by (with_reducible repeat (first | apply Kd.R_alloc | apply Kd.R_drewN | apply Kd.R_drew)); exact HO257.out))
   (case aS => exact (below_size (pB HB)))
   (case aL => have := LMc5.out; omega)
   intro v259 w14 ho hb hg hat
   rw [← Ny258.out] at ho
   have n0_ := Aside0.mk (blk_grown (g := gb252) (o := .cells #[.int .i64 a1_0, .int .i64 a1_1, .slice A1_2 l1_2.length c1_2] 27 (0, 0)) (by (with_reducible repeat (first | refine blk_drewN ?_ _ | refine blk_drew ?_ | refine blk_alloc ?_ _)); exact BK252.out) hg (Kd.R_ne HO257.out BK252.out (by decide)))
   have n1_ := Aside0.mk (blk_grown (g := gb253) (o := .cells #[.int .i64 0, .int .i64 0, .int .i64 0, .slice none 0 0, .slice none 0 0] 30 (0, 0)) (by (with_reducible repeat (first | refine blk_drewN ?_ _ | refine blk_drew ?_ | refine blk_alloc ?_ _)); exact BK253.out) hg (Kd.R_ne HO257.out BK253.out (by decide)))
   have n2_ := Aside0.mk (hb)
   have n3_ := Aside0.mk (ho)
   clear BK252
   clear BK253
   clear HB
   clear HO257
   have BK252 := n0_
   have BK253 := n1_
   have HB := n2_
   have HO260 := n3_
   clear n0_ n1_ n2_ n3_
   clear ho hb hg hat
   obtain ⟨Ao15, co15, eo15⟩ := Kd.R_slice HO260.out
   (first | subst eo15 | (injection eo15 with f1_ f2_ f3_; have f4_ := f1_.symm; have f5_ := f3_.symm; clear f1_ f2_ f3_; subst f4_; subst f5_))
   refine hK.out _ _ ⟨(blk_cell BK252.out 0).trans rfl, (blk_cell BK252.out 1).trans rfl, (blk_cell BK252.out 2).trans rfl⟩ (fun hHeld => ?_)
   clear hK K
   refine norm_ (a' := ?_) ?_ ?_
   rotate_left
   ·show Act.put _ (some 22) _ = _
    simp only [Act.put, sT, sZ, sU, i64_w, i32_w]
    rfl
   refine pure_ (i := 9) (N := some 23) (v := ?_) (a' := ?_) #[true, true, true, true, true, true, true, true, true, true, false, false, false] rfl rfl (any_of HT_.out (by kernel_rfl)) (fun _ _ _ h => h) (Or.inl ⟨by rfl, ?_⟩) ?_ ?_
   rotate_left
   ·intro w'
    go_simp
    with_reducible rfl
   rotate_left
   ·simp only [Act.put, sT, sZ, sU, i64_w, i32_w]
    rfl
   refine pure_ (i := 10) (N := some 24) (v := ?_) (a' := ?_) #[true, true, true, true, true, true, true, true, true, true, true, false, false] rfl rfl (any_of HT_.out (by kernel_rfl)) (fun _ _ _ h => h) (Or.inl ⟨by rfl, ?_⟩) ?_ ?_
   rotate_left
   ·intro w'
    go_simp
    with_reducible rfl
   rotate_left
   ·simp only [Act.put, sT, sZ, sU, i64_w, i32_w]
    rfl
   refine one_ (i := 11) (N := none) #[true, true, true, true, true, true, true, true, true, true, true, true, false] rfl rfl (one_of HT_.out (by kernel_rfl)) (by decide) (fun K hK => ?_)
   have hs16 : w14.cell? ⟨gb253, 0, none⟩ = some (.int .i64 0) := (blk_cell BK253.out 0).trans rfl
   have hfs16 := blk_frozen BK253.out 0
   have hns16_0 := NB252_253.out
   have hms16_0 := NB253_252.out
   have hs17 : w14.cell? ⟨gb253, 1, none⟩ = some (.int .i64 0) := (blk_cell BK253.out 1).trans rfl
   have hfs17 := blk_frozen BK253.out 1
   have hns17_0 := NB252_253.out
   have hms17_0 := NB253_252.out
   have hs18 : w14.cell? ⟨gb253, 2, none⟩ = some (.int .i64 0) := (blk_cell BK253.out 2).trans rfl
   have hfs18 := blk_frozen BK253.out 2
   have hns18_0 := NB252_253.out
   have hms18_0 := NB253_252.out
   have hs19 : w14.cell? ⟨gb253, 3, none⟩ = some (.slice none 0 0) := (blk_cell BK253.out 3).trans rfl
   have hfs19 := blk_frozen BK253.out 3
   have hns19_0 := NB252_253.out
   have hms19_0 := NB253_252.out
   have hs20 : w14.cell? ⟨gb253, 4, none⟩ = some (.slice none 0 0) := (blk_cell BK253.out 4).trans rfl
   have hfs20 := blk_frozen BK253.out 4
   have hns20_0 := NB252_253.out
   have hms20_0 := NB253_252.out
   refine skip_ (w1 := ?_) (by rfl) rfl ?_ ?_
   rotate_left
   ·go_simp
    rfl
   refine hK.out _ _ ⟨((cell_far (p := ⟨gb253, _, none⟩) NB252_253.out _).trans (((cell_far (p := ⟨gb253, _, none⟩) NB252_253.out _).trans (((cell_far (p := ⟨gb253, _, none⟩) NB252_253.out _).trans (((cell_far (p := ⟨gb253, _, none⟩) NB252_253.out _).trans (((cell_far (p := ⟨gb253, _, none⟩) NB252_253.out _).trans (hHeld.1)))))))))), ((cell_far (p := ⟨gb253, _, none⟩) NB252_253.out _).trans (((cell_far (p := ⟨gb253, _, none⟩) NB252_253.out _).trans (((cell_far (p := ⟨gb253, _, none⟩) NB252_253.out _).trans (((cell_far (p := ⟨gb253, _, none⟩) NB252_253.out _).trans (((cell_far (p := ⟨gb253, _, none⟩) NB252_253.out _).trans (hHeld.2.1)))))))))), ((cell_far (p := ⟨gb253, _, none⟩) NB252_253.out _).trans (((cell_far (p := ⟨gb253, _, none⟩) NB252_253.out _).trans (((cell_far (p := ⟨gb253, _, none⟩) NB252_253.out _).trans (((cell_far (p := ⟨gb253, _, none⟩) NB252_253.out _).trans (((cell_far (p := ⟨gb253, _, none⟩) NB252_253.out _).trans (hHeld.2.2))))))))))⟩ (fun hHeld => ?_)
   clear hK K
   refine pure_ (i := 12) (N := some 5) (v := ?_) (a' := ?_) #[true, true, true, true, true, true, true, true, true, true, true, true, true] rfl rfl (any_of HT_.out (by kernel_rfl)) (fun _ _ _ h => h) (Or.inl ⟨by rfl, ?_⟩) ?_ ?_
   rotate_left
   ·intro w'
    go_simp
    with_reducible rfl
   rotate_left
   ·simp only [Act.put, sT, sZ, sU, i64_w, i32_w]
    rfl
   refine done_ (done_of HT_.out (by kernel_rfl)) ?_
   try go_wp2
   refine bodyPost_ret (results_ct rfl _ _ gb253 30 #[.int .i64 a0, .int .i64 a1_0, .int .i64 a1_1, .slice Ao15 y258.length co15, .slice none 0 0] (0, 0) _ rfl (by (with_reducible repeat (first | refine blk_drewN ?_ _ | refine blk_drew ?_ | refine blk_alloc ?_ _)); refine blk_put (cs := #[.int .i64 a0, .int .i64 a1_0, .int .i64 a1_1, .slice Ao15 y258.length co15, .slice none 0 0]) ?_ 4 _ rfl; (with_reducible repeat (first | refine blk_drewN ?_ _ | refine blk_drew ?_ | refine blk_alloc ?_ _)); refine blk_put (cs := #[.int .i64 a0, .int .i64 a1_0, .int .i64 a1_1, .slice none 0 0, .slice none 0 0]) ?_ 3 _ rfl; (with_reducible repeat (first | refine blk_drewN ?_ _ | refine blk_drew ?_ | refine blk_alloc ?_ _)); refine blk_put (cs := #[.int .i64 a0, .int .i64 a1_0, .int .i64 0, .slice none 0 0, .slice none 0 0]) ?_ 2 _ rfl; (with_reducible repeat (first | refine blk_drewN ?_ _ | refine blk_drew ?_ | refine blk_alloc ?_ _)); refine blk_put (cs := #[.int .i64 a0, .int .i64 0, .int .i64 0, .slice none 0 0, .slice none 0 0]) ?_ 1 _ rfl; (with_reducible repeat (first | refine blk_drewN ?_ _ | refine blk_drew ?_ | refine blk_alloc ?_ _)); refine blk_put (cs := #[.int .i64 0, .int .i64 0, .int .i64 0, .slice none 0 0, .slice none 0 0]) ?_ 0 _ rfl; (with_reducible repeat (first | refine blk_drewN ?_ _ | refine blk_drew ?_ | refine blk_alloc ?_ _)); exact BK253.out) Try.underlying30 rfl (by kernel_rfl)) rfl ?_
   exact ⟨_, _, by first | rfl | (simp [errW_none, errW_some] <;> rfl) | (simp [*, errW_none, errW_some] <;> rfl), by (with_reducible repeat (first | apply Kd.R_alloc | apply Kd.R_drewN | apply Kd.R_drew)); exact Kd.R_mono (Kd.R_far (p := ⟨gb253, 4, none⟩) (Kd.R_far (p := ⟨gb253, 3, none⟩) (Kd.R_far (p := ⟨gb253, 2, none⟩) (Kd.R_far (p := ⟨gb253, 1, none⟩) (Kd.R_far (p := ⟨gb253, 0, none⟩) (Kd.R_types HO260.out BK253.out (by decide)) (fun _ hk => hk.2) (.int .i64 a0)) (fun _ hk => hk.2) (.int .i64 a1_0)) (fun _ hk => hk.2) (.int .i64 a1_1)) (fun _ hk => hk.2) (.slice Ao15 y258.length co15)) (fun _ hk => hk.2) (.slice none 0 0)) (fun _ hk => trivial), by first | exact Kd.R_nil _ _ _ _ _ | exact Kd.N_nil _ _ _ _ _ | exact Kd.V_nil _ _ _ _ _ | exact Kd.Q_nil _ _ _ _ _ | exact Kd.S_nil _ _ _ _ _, pB HB⟩
  ·rw [if_neg c5] at H
   exact absurd H (by simp)
 ·rw [if_neg c4] at H
  have c4b0 : (t254 == 0) = false := beq_eq_false_iff_ne.mpr c4
  have c4b1 : (t254 != 0) = true := bne_iff_ne.mpr c4
  simp only [Option.some.injEq, Prod.mk.injEq] at H
  obtain ⟨rfl, rfl, rfl, rfl, rfl, rfl⟩ := H
  go_enter Try.func22, Try.ntmps22
  go_wp2_with (first | ((with_reducible refine gate_dst (N := 3) rfl ?_); refine boxE (N := 3) #[.int .i64 a1_0, .int .i64 a1_1, .slice A1_2 l1_2.length c1_2] 27 ?_; intro gb252 hg w21 hbox hb; have BK252 := Aside0.mk (hbox); have GW252 := gS HB hg; have GE252 := gS HB hg; replace HB := Aside0.mk (below_step (pB HB) hb); clear hb hbox hg) | ((with_reducible refine gate_dst (N := 4) rfl ?_); refine boxE (N := 4) #[.int .i64 0, .int .i64 0, .int .i64 0, .slice none 0 0, .slice none 0 0] 30 ?_; intro gb253 hg w22 hbox hb; have BK253 := Aside0.mk (hbox); have GW253 := gS HB hg; have GE253 := gS HB hg; have NB252_253 := nL BK252 hg; have NB253_252 := nG BK252 hg; replace BK252 := bB BK252 hb; replace HB := Aside0.mk (below_step (pB HB) hb); clear hb hbox hg; have hnb23 := NB252_253.out; have hnc23 := NB253_252.out; obtain ⟨hcz24_0, hcz24_1, hcz24_2⟩ := cells3 BK252; obtain ⟨hfz24_0, hfz24_1, hfz24_2⟩ := frz3 BK252) | ((with_reducible refine gate_callee (f := 40) rfl ?_); refine goesL_ (some 9) rfl rfl Try.func40 (by kernel_rfl) rfl #[.int .i64 a0, .agg #[.int .i64 a1_0, .int .i64 a1_1, .slice A1_2 l1_2.length c1_2]] rfl (by (try simp only [List.map_toArray, List.map_cons, List.map_nil]); first | done | rfl | (simp only [List.length_drop, List.length_take]; rfl)) ?_; (with_reducible refine (insolvencyref33_checkTerms.calls a0 a1_0 a1_1 _ _ l1_2 t254 _ ?side1 ?side2 A3.out).mono ?_); (case side1 => exact cB HR1_2 HB); (case side2 => exact HC1_2.out); rintro e w25 ⟨rfl, hb⟩; refine ⟨_, rfl, ?_⟩; replace BK252 := bB BK252 hb; replace BK253 := bB BK253 hb; replace HB := Aside0.mk (below_step (pB HB) hb); (try clear hb); obtain ⟨hcz26_0, hcz26_1, hcz26_2, hcz26_3, hcz26_4⟩ := cells5 BK253; obtain ⟨hfz26_0, hfz26_1, hfz26_2, hfz26_3, hfz26_4⟩ := frz5 BK253))
  refine bodyPost_ret (results_ct rfl _ _ gb253 30 #[.int .i64 0, .int .i64 0, .int .i64 0, .slice none 0 0, .slice none 0 0] (0, 0) _ rfl (by (with_reducible repeat (first | refine blk_drewN ?_ _ | refine blk_drew ?_ | refine blk_alloc ?_ _)); refine blk_put (cs := #[.int .i64 0, .int .i64 0, .int .i64 0, .slice none 0 0, .slice none 0 0]) ?_ 4 _ rfl; (with_reducible repeat (first | refine blk_drewN ?_ _ | refine blk_drew ?_ | refine blk_alloc ?_ _)); refine blk_put (cs := #[.int .i64 0, .int .i64 0, .int .i64 0, .slice none 0 0, .slice none 0 0]) ?_ 3 _ rfl; (with_reducible repeat (first | refine blk_drewN ?_ _ | refine blk_drew ?_ | refine blk_alloc ?_ _)); refine blk_put (cs := #[.int .i64 0, .int .i64 0, .int .i64 0, .slice none 0 0, .slice none 0 0]) ?_ 2 _ rfl; (with_reducible repeat (first | refine blk_drewN ?_ _ | refine blk_drew ?_ | refine blk_alloc ?_ _)); refine blk_put (cs := #[.int .i64 0, .int .i64 0, .int .i64 0, .slice none 0 0, .slice none 0 0]) ?_ 1 _ rfl; (with_reducible repeat (first | refine blk_drewN ?_ _ | refine blk_drew ?_ | refine blk_alloc ?_ _)); refine blk_put (cs := #[.int .i64 0, .int .i64 0, .int .i64 0, .slice none 0 0, .slice none 0 0]) ?_ 0 _ rfl; (with_reducible repeat (first | refine blk_drewN ?_ _ | refine blk_drew ?_ | refine blk_alloc ?_ _)); exact BK253.out) Try.underlying30 rfl (by kernel_rfl)) rfl ?_
  exact ⟨_, _, by first | rfl | (simp [errW_none, errW_some] <;> rfl) | (simp [*, errW_none, errW_some] <;> rfl), by first | exact Kd.R_nil _ _ _ _ _ | exact Kd.N_nil _ _ _ _ _ | exact Kd.V_nil _ _ _ _ _ | exact Kd.Q_nil _ _ _ _ _ | exact Kd.S_nil _ _ _ _ _, by first | exact Kd.R_nil _ _ _ _ _ | exact Kd.N_nil _ _ _ _ _ | exact Kd.V_nil _ _ _ _ _ | exact Kd.Q_nil _ _ _ _ _ | exact Kd.S_nil _ _ _ _ _, pB HB⟩
end Go.Proofs.Ytpfiecjacpbhkaa.D

namespace Go.Proofs.Ytpfiecjacpbhkaa.D
open Go.RowKit Go.Proofs.YtpfiecjacpbhkaaW.PrintWords Go.Proofs.YtpfiecjacpbhkaaW.PrintLast Go.Proofs.YtpfiecjacpbhkaaW.PrintMore
attribute [local go_sem] max2_int min2_int max_two min_two max_three min_three max_four min_four
set_option linter.unusedVariables false
set_option linter.unusedSimpArgs false
def insolvencylaw0_Terms.l0 : Nat → List Int → Int → Int → Int → List Int → Option (Int × Int × List Int)
 | 0, _, _, _, _, _ => none
 | k + 1, x1, x6, x317000, x317001, x317002 => if x6 < (x1.length : Int) then (if x6 < 6 then (if 0 ≤ x6 then (if x317002.length < 17592186044416 then (insolvencylaw0_Terms.l0 k x1 (wrap64 (x6 + 1)) x317000 x317001 (x317002 ++ [wrap64 (Int.tmod (rd x1 x6) 60)])) else (none)) else (none)) else (some (x317000, x317001, x317002))) else (some (x317000, x317001, x317002))
def insolvencylaw0_Terms.f (k : Nat) (a0_0 : Int) (a0_1 : Int) (l1 : List Int) : Option (Int × Int × List Int) := insolvencylaw0_Terms.l0 k l1 0 (wrap64 (1 + (wrap64 (Int.tmod a0_0 8)))) (wrap64 (1 + (wrap64 (Int.tmod a0_1 8)))) ([] : List Int)
theorem insolvencylaw0_Terms.mono_l : ∀ k, (∀ y0 y1 y2 y3 y4, LeO (insolvencylaw0_Terms.l0 k y0 y1 y2 y3 y4) (insolvencylaw0_Terms.l0 (k + 1) y0 y1 y2 y3 y4))
 | 0 => fun _ _ _ _ _ r h => by simp [insolvencylaw0_Terms.l0] at h
 | k + 1 => by
  have ih0 := insolvencylaw0_Terms.mono_l k
  ·intro y0 y1 y2 y3 y4
   unfold insolvencylaw0_Terms.l0
   repeat' first
   | (with_reducible exact ih0 _ _ _ _ _)
   | (with_reducible exact LeO.refl _)
   | (with_reducible exact LeO.none _)
   | (with_reducible refine LeO.ite ?_ ?_)
   | (with_reducible refine LeO.bind ?_ (fun _ => ?_))
   | exact ih0 _ _ _ _ _
   | exact LeO.none _
   | refine LeO.ite ?_ ?_
   | refine LeO.bind ?_ (fun _ => ?_)
theorem insolvencylaw0_Terms.mono : ∀ a0 a1 a2 k, LeO (insolvencylaw0_Terms.f k a0 a1 a2) (insolvencylaw0_Terms.f (k + 1) a0 a1 a2) := by
 intro a0 a1 a2 k
 have ih0 := insolvencylaw0_Terms.mono_l k
 unfold insolvencylaw0_Terms.f
 repeat' first
   | (with_reducible exact ih0 _ _ _ _ _)
   | (with_reducible exact LeO.refl _)
   | (with_reducible exact LeO.none _)
   | (with_reducible refine LeO.ite ?_ ?_)
   | (with_reducible refine LeO.bind ?_ (fun _ => ?_))
   | exact ih0 _ _ _ _ _
   | exact LeO.none _
   | refine LeO.ite ?_ ?_
   | refine LeO.bind ?_ (fun _ => ?_)
def insolvencylaw0_Terms.T5 : Bool × List (List Nat × List Nat) := (true, [([], []), ([0], [0]), ([], []), ([], []), ([2, 3], [2, 3]), ([4], [4]), ([5], [5]), ([6], [6]), ([7], [7]), ([1, 8], [1, 8]), ([0, 1, 2, 3, 4, 5, 6, 7, 8, 9], []), ([10, 9, 9, 0, 1, 2, 3, 4, 5, 6, 7, 8, 9], [9, 10])])
def insolvencylaw0_Terms.B5 : List Nat := [0, 1, 0, 0, 12, 28, 60, 124, 252, 511, 1023, 2047]
theorem insolvencylaw0_Terms.tab5 : rtab .any (opsOf Try.f18 5) = insolvencylaw0_Terms.T5 := by kernel_rfl
theorem insolvencylaw0_Terms.bits5 : waitsOk insolvencylaw0_Terms.T5.2 insolvencylaw0_Terms.B5 = true := by kernel_rfl
set_option maxHeartbeats 8000000 in
set_option maxRecDepth 100000 in
theorem insolvencylaw0_Terms.calls (k : Nat) (a0_0 : Int) (a0_1 : Int) (A1 : Option Addr) (c1 : Nat) (l1 : List Int) (r1 : Int) (r2 : Int) (r3 : List Int) (w : World) (hr1 : Kd.C (Kd.int .u16) w A1 l1.length l1) (hc1 : l1.length ≤ c1) (h : insolvencylaw0_Terms.f k a0_0 a0_1 l1 = some (r1, r2, r3)) :
  Calls Try.prog 18 #[.agg #[.int .u8 a0_0, .int .u8 a0_1], .slice A1 l1.length c1] w fun e w' => ∃ v2_ : Value, e = .returned (.agg #[.int .i64 r1, .int .i64 r2, v2_]) ∧ Kd.R (Kd.int .i64) 3 w' w.heap.size (fun _ => True) v2_ r3 ∧ Below w.heap.size w w' := by
 have hu22 := Try.underlying22
 have hu27 := Try.underlying27
 have HR1 := Aside0.mk hr1
 have HC1 := Aside0.mk hc1
 clear hr1 hc1
 have HB := Aside0.mk (Below.refl w.heap.size w)
 have H : (insolvencylaw0_Terms.l0 k l1 0 (wrap64 (1 + (wrap64 (Int.tmod a0_0 8)))) (wrap64 (1 + (wrap64 (Int.tmod a0_1 8)))) ([] : List Int)) = some (r1, r2, r3) := h
 clear h
 have H' := Aside0.mk H
 clear H
 go_enter Try.func18, Try.ntmps18
 go_wp2_with (first | ((with_reducible refine gate_dst (N := 2) rfl ?_); refine boxE (N := 2) #[.int .u8 a0_0, .int .u8 a0_1] 22 ?_; intro gb314 hg w3 hbox hb; have BK314 := Aside0.mk (hbox); have GW314 := gS HB hg; have GE314 := gS HB hg; replace HB := Aside0.mk (below_step (pB HB) hb); clear hb hbox hg) | ((with_reducible refine gate_dst (N := 4) rfl ?_); refine boxE (N := 4) #[.int .i64 0, .int .i64 0, .slice none 0 0] 27 ?_; intro gb315 hg w4 hbox hb; have BK315 := Aside0.mk (hbox); have GW315 := gS HB hg; have GE315 := gS HB hg; have NB314_315 := nL BK314 hg; have NB315_314 := nG BK314 hg; replace BK314 := bB BK314 hb; replace HB := Aside0.mk (below_step (pB HB) hb); clear hb hbox hg; have hnb5 := NB314_315.out; have hnc5 := NB315_314.out; obtain ⟨hcz6_0, hcz6_1⟩ := cells2 BK314; obtain ⟨hfz6_0, hfz6_1⟩ := frz2 BK314) | ((with_reducible refine gate_dst (N := 5) rfl ?_); refine boxE (N := 5) #[.int .i64 0, .int .i64 0, .slice none 0 0] 27 ?_; intro gb316 hg w7 hbox hb; have BK316 := Aside0.mk (hbox); have GW316 := gS HB hg; have GE316 := gS HB hg; have NB314_316 := nL BK314 hg; have NB316_314 := nG BK314 hg; have NB315_316 := nL BK315 hg; have NB316_315 := nG BK315 hg; replace BK314 := bB BK314 hb; replace BK315 := bB BK315 hb; replace HB := Aside0.mk (below_step (pB HB) hb); clear hb hbox hg; have hnb8 := NB316_314.out; have hnc8 := NB314_316.out; have hnb9 := NB316_315.out; have hnc9 := NB315_316.out; obtain ⟨hcz10_0, hcz10_1, hcz10_2⟩ := cells3 BK316; obtain ⟨hfz10_0, hfz10_1, hfz10_2⟩ := frz3 BK316))
 go_loopg [6] k (fun kq v6 w' => ∃ (x6_1 : Int) (x317002_1 : List Int) (u317002 : Value), v6 = .int .i64 x6_1 ∧ Aside0 (insolvencylaw0_Terms.l0 kq l1 x6_1 (wrap64 (1 + (wrap64 (Int.tmod a0_0 8)))) (wrap64 (1 + (wrap64 (Int.tmod a0_1 8)))) x317002_1 = some (r1, r2, r3)) ∧ Aside0 (kq ≤ k) ∧ Aside0 (Kd.R (Kd.int .i64) 3 w' w.heap.size (fun _ => True) u317002 x317002_1) ∧ Aside0 (w'.heap[gb314]? = some (.cells #[.int .u8 a0_0, .int .u8 a0_1] 22 (0, 0))) ∧ Aside0 (w'.heap[gb315]? = some (.cells #[.int .i64 0, .int .i64 0, (.slice none 0 0)] 27 (0, 0))) ∧ Aside0 (w'.heap[gb316]? = some (.cells #[.int .i64 (wrap64 (1 + (wrap64 (Int.tmod a0_0 8)))), .int .i64 (wrap64 (1 + (wrap64 (Int.tmod a0_1 8)))), u317002] 27 (0, 0))) ∧ Aside0 (Below w.heap.size w w'))
 case atStart => exact ⟨(0), (([] : List Int)), (.slice none 0 0), (by first | rfl | (simp; done) | (simp [*]; done)), H', ⟨Nat.le_refl _⟩, ⟨by first | exact Kd.R_nil _ _ _ _ _ | exact Kd.N_nil _ _ _ _ _ | exact Kd.V_nil _ _ _ _ _ | exact Kd.Q_nil _ _ _ _ _ | exact Kd.S_nil _ _ _ _ _⟩, ⟨by (with_reducible repeat (first | refine blk_drewN ?_ _ | refine blk_drew ?_ | refine blk_alloc ?_ _)); refine blk_far ?_ NB314_316.out _; (with_reducible repeat (first | refine blk_drewN ?_ _ | refine blk_drew ?_ | refine blk_alloc ?_ _)); refine blk_far ?_ NB314_316.out _; (with_reducible repeat (first | refine blk_drewN ?_ _ | refine blk_drew ?_ | refine blk_alloc ?_ _)); refine blk_far ?_ NB314_316.out _; (with_reducible repeat (first | refine blk_drewN ?_ _ | refine blk_drew ?_ | refine blk_alloc ?_ _)); exact BK314.out⟩, ⟨by (with_reducible repeat (first | refine blk_drewN ?_ _ | refine blk_drew ?_ | refine blk_alloc ?_ _)); refine blk_far ?_ NB315_316.out _; (with_reducible repeat (first | refine blk_drewN ?_ _ | refine blk_drew ?_ | refine blk_alloc ?_ _)); refine blk_far ?_ NB315_316.out _; (with_reducible repeat (first | refine blk_drewN ?_ _ | refine blk_drew ?_ | refine blk_alloc ?_ _)); refine blk_far ?_ NB315_316.out _; (with_reducible repeat (first | refine blk_drewN ?_ _ | refine blk_drew ?_ | refine blk_alloc ?_ _)); exact BK315.out⟩, ⟨by (with_reducible repeat (first | refine blk_drewN ?_ _ | refine blk_drew ?_ | refine blk_alloc ?_ _)); refine blk_put (cs := #[.int .i64 (wrap64 (1 + (wrap64 (Int.tmod a0_0 8)))), .int .i64 (wrap64 (1 + (wrap64 (Int.tmod a0_1 8)))), .slice none 0 0]) ?_ 2 _ rfl; (with_reducible repeat (first | refine blk_drewN ?_ _ | refine blk_drew ?_ | refine blk_alloc ?_ _)); refine blk_put (cs := #[.int .i64 (wrap64 (1 + (wrap64 (Int.tmod a0_0 8)))), .int .i64 0, .slice none 0 0]) ?_ 1 _ rfl; (with_reducible repeat (first | refine blk_drewN ?_ _ | refine blk_drew ?_ | refine blk_alloc ?_ _)); refine blk_put (cs := #[.int .i64 0, .int .i64 0, .slice none 0 0]) ?_ 0 _ rfl; (with_reducible repeat (first | refine blk_drewN ?_ _ | refine blk_drew ?_ | refine blk_alloc ?_ _)); exact BK316.out⟩, ⟨pB HB⟩⟩
 case round =>
  clear H'
  try clear c1
  try clear p2
  try clear c5
  try clear p6
  try clear c8
  try clear c9
  obtain ⟨x6_1, x317002_1, u317002, rfl, HA, HK1, HO_317002, BK314, BK315, BK316, HB⟩ := hrel
  cases gk with
  | zero => exact absurd HA.out (by simp [insolvencylaw0_Terms.l0])
  | succ k1 =>
   have H := HA.out
   clear HA
   simp only [insolvencylaw0_Terms.l0] at H
   by_cases c11 : x6_1 < (l1.length : Int)
   ·rw [if_pos c11] at H
    have c11b0 : decide (x6_1 < (l1.length : Int)) = true := decide_eq_true c11
    clear c11
    by_cases c12 : x6_1 < 6
    ·rw [if_pos c12] at H
     have c12b0 : decide (x6_1 < 6) = true := decide_eq_true c12
     clear c12
     by_cases c13 : 0 ≤ x6_1
     ·rw [if_pos c13] at H
      have c13b0 : decide (0 ≤ x6_1) = true := decide_eq_true c13
      clear c13
      by_cases c14 : x317002_1.length < 17592186044416
      ·rw [if_pos c14] at H
       have LMc14 := Aside0.mk c14
       clear c14
       obtain ⟨y318, hy318⟩ : ∃ y_ : List Int, y_ = (x317002_1 ++ [wrap64 (Int.tmod (rd l1 x6_1) 60)]) := ⟨_, rfl⟩
       replace H : (insolvencylaw0_Terms.l0 k1 l1 (wrap64 (x6_1 + 1)) (wrap64 (1 + (wrap64 (Int.tmod a0_0 8)))) (wrap64 (1 + (wrap64 (Int.tmod a0_1 8)))) y318) = some (r1, r2, r3) := by first | (rw [hy318]; with_reducible exact H) | (have H2_ := (Option.bind_some _ _).symm.trans H; rw [hy318]; with_reducible exact H2_) | (have H2_ := (Option.bind_some _ _).symm.trans H; with_reducible exact H2_) | with_reducible exact H | (rw [hy318]; exact H) | exact H
       have Ny318 := Aside0.mk hy318
       clear hy318
       have H' := Aside0.mk H
       clear H
       try go_wp2
       replace HO_317002 := Aside0.mk (Kd.R_drew HO_317002.out)
       replace BK314 := Aside0.mk (blk_drew BK314.out)
       replace BK315 := Aside0.mk (blk_drew BK315.out)
       replace BK316 := Aside0.mk (blk_drew BK316.out)
       replace HB := Aside0.mk (below_drew1 HB.out)
       have p317 : 0 ≤ (x6_1 : Int) := of_decide_eq_true (by first | (with_reducible assumption) | assumption)
       have q317 : x6_1 < (l1.length : Int) := of_decide_eq_true (by first | (with_reducible assumption) | assumption)
       obtain ⟨ad317, e317, hx317_0⟩ := Kd.at_int HR1.out x6_1 p317 q317
       have hw317_0 := hx317_0
       cases e317
       replace hx317_0 := (HB.out.cell (World.block_lt_of_cell? w _ hx317_0)).trans hx317_0
       replace p317 := eq_true p317
       replace q317 := eq_true q317
       refine start_ (n := 12) (S := fun w' => w'.cell? ⟨gb316, 0, none⟩ = some (.int .i64 (wrap64 (1 + (wrap64 (Int.tmod a0_0 8))))) ∧ w'.cell? ⟨gb316, 1, none⟩ = some (.int .i64 (wrap64 (1 + (wrap64 (Int.tmod a0_1 8))))) ∧ w'.cell? ⟨gb316, 2, none⟩ = some (u317002) ∧ w'.cell? (ad317.add (x6_1).toNat) = some (.int .u16 (rd l1 x6_1))) (ds := [11]) #[false, false, false, false, false, false, false, false, false, false, false, false] (by kernel_rfl) rfl rfl ⟨(blk_cell BK316.out 0).trans rfl, (blk_cell BK316.out 1).trans rfl, (blk_cell BK316.out 2).trans rfl, ((HB.out.cell (World.block_lt_of_cell? w _ hw317_0)).trans hw317_0)⟩ (fun hHeld => ?_); refine with_tabW insolvencylaw0_Terms.tab5 insolvencylaw0_Terms.bits5 (fun HT_ HW_ => ?_)
       generalize wr.drew = w15 at HO_317002 BK314 BK315 BK316 HB hx317_0 hHeld ⊢
       refine pure_ (i := 0) (N := some 28) (v := ?_) (a' := ?_) #[true, false, false, false, false, false, false, false, false, false, false, false] rfl rfl (any_of HT_.out (by kernel_rfl)) (fun _ _ _ h => h) (Or.inl ⟨by rfl, ?_⟩) ?_ ?_
       rotate_left
       ·intro w'
        go_simp
        with_reducible rfl
       rotate_left
       ·simp only [Act.put, sT, sZ, sU, i64_w, i32_w]
        rfl
       refine pure_ (i := 2) (N := some 30) (v := ?_) (a' := ?_) #[true, false, true, false, false, false, false, false, false, false, false, false] rfl rfl (any_of HT_.out (by kernel_rfl)) (fun _ _ _ h => h) (Or.inl ⟨by rfl, ?_⟩) ?_ ?_
       rotate_left
       ·intro w'
        go_simp
        with_reducible rfl
       rotate_left
       ·simp only [Act.put, sT, sZ, sU, i64_w, i32_w]
        rfl
       refine pure_ (i := 3) (N := some 31) (v := ?_) (a' := ?_) #[true, false, true, true, false, false, false, false, false, false, false, false] rfl rfl (any_of HT_.out (by kernel_rfl)) (fun _ _ _ h => h) (Or.inl ⟨by rfl, ?_⟩) ?_ ?_
       rotate_left
       ·intro w'
        go_simp
        with_reducible rfl
       rotate_left
       ·simp only [Act.put, sT, sZ, sU, i64_w, i32_w]
        rfl
       refine pure_ (i := 4) (N := some 32) (v := ?_) (a' := ?_) #[true, false, true, true, true, false, false, false, false, false, false, false] rfl rfl (any_of HT_.out (by kernel_rfl)) (fun _ _ _ h => h) (Or.inl ⟨by rfl, ?_⟩) ?_ ?_
       rotate_left
       ·intro w'
        go_simp
        with_reducible rfl
       rotate_left
       ·simp only [Act.put, sT, sZ, sU, i64_w, i32_w]
        rfl
       refine take_ (i := 1) (N := some 29) (v := ?_) (a' := ?_) #[true, true, true, true, true, false, false, false, false, false, false, false] rfl rfl (take_ofW HT_.out HW_.out (by kernel_rfl)) (fun _ _ _ h => h) (Or.inl ⟨by rfl, ?_⟩) hHeld ?_ ?_
       rotate_left
       ·rintro w' ⟨s0, s1, s2, s3⟩
        go_simp
        with_reducible rfl
       rotate_left
       ·simp only [Act.put, sT, sZ, sU, i64_w, i32_w]
        rfl
       refine take_ (i := 5) (N := some 33) (v := ?_) (a' := ?_) #[true, true, true, true, true, true, false, false, false, false, false, false] rfl rfl (take_ofW HT_.out HW_.out (by kernel_rfl)) (fun _ _ _ h => h) (Or.inl ⟨by rfl, ?_⟩) hHeld ?_ ?_
       rotate_left
       ·rintro w' ⟨s0, s1, s2, s3⟩
        go_simp
        with_reducible rfl
       rotate_left
       ·simp only [Act.put, sT, sZ, sU, i64_w, i32_w]
        rfl
       refine pure_ (i := 6) (N := some 34) (v := ?_) (a' := ?_) #[true, true, true, true, true, true, true, false, false, false, false, false] rfl rfl (any_of HT_.out (by kernel_rfl)) (fun _ _ _ h => h) (Or.inl ⟨by rfl, ?_⟩) ?_ ?_
       rotate_left
       ·intro w'
        go_simp
        with_reducible rfl
       rotate_left
       ·simp only [Act.put, sT, sZ, sU, i64_w, i32_w]
        rfl
       refine pure_ (i := 7) (N := some 35) (v := ?_) (a' := ?_) #[true, true, true, true, true, true, true, true, false, false, false, false] rfl rfl (any_of HT_.out (by kernel_rfl)) (fun _ _ _ h => h) (Or.inl ⟨by rfl, ?_⟩) ?_ ?_
       rotate_left
       ·intro w'
        go_simp
        with_reducible rfl
       rotate_left
       ·simp only [Act.put, sT, sZ, sU, i64_w, i32_w]
        rfl
       refine one_ (i := 8) (N := some 36) #[true, true, true, true, true, true, true, true, true, false, false, false] rfl rfl (one_of HT_.out (by kernel_rfl)) (by decide) (fun K hK => ?_)
       refine value_ (w1 := ?_) (v := ?_) (by rfl) rfl ?_ ?_
       rotate_left 2
       ·go_simp
        constructor
        ·rfl
        ·rfl
       refine hK.out _ _ ⟨(blk_cell (blk_alloc BK316.out _) 0).trans rfl, (blk_cell (blk_alloc BK316.out _) 1).trans rfl, (blk_cell (blk_alloc BK316.out _) 2).trans rfl, (World.cell?_alloc_lt _ _ _ (World.block_lt_of_cell? _ _ (((HB.out.cell (World.block_lt_of_cell? w _ hw317_0)).trans hw317_0)))).trans (((HB.out.cell (World.block_lt_of_cell? w _ hw317_0)).trans hw317_0))⟩ (fun hHeld => ?_)
       clear hK K
       refine norm_ (a' := ?_) ?_ ?_
       rotate_left
       ·show Act.put _ (some 36) _ = _
        simp only [Act.put, sT, sZ, sU, i64_w, i32_w]
        rfl
       refine one_ (i := 9) (N := some 37) #[true, true, true, true, true, true, true, true, true, true, false, false] rfl rfl (one_of HT_.out (by kernel_rfl)) (by decide) (fun K hK => ?_)
       refine Kd.R_append_step (Kd.int .i64) (w0 := w) w.heap.size (by rfl) (.tmp 29) (.tmp 36) 25 3 (.int .i64 0) 8 rfl Try.underlying25 info3 rfl (by decide) (by omega) u317002 x317002_1 (wrap64 (Int.tmod (rd l1 x6_1) 60)) [.int .i64 (wrap64 (Int.tmod (rd l1 x6_1) 60))] (fun _ => True) (fun _ => False) rfl rfl ?aP (fun _ hk => hk.elim) ?aF ?aO ?aB ?aS ?aL ?_
       (case aP => exact rfl)
       (case aB => exact (pB HB))
       (case aF => exact (fun _ _ => trivial))
       (case aO => exact (by (with_reducible repeat (first | apply Kd.R_alloc | apply Kd.R_drewN | apply Kd.R_drew)); exact HO_317002.out))
       (case aS => exact (below_size (pB HB)))
       (case aL => have := LMc14.out; omega)
       intro v319 w16 ho hb hg hat
       rw [← Ny318.out] at ho
       have n0_ := Aside0.mk (blk_grown (g := gb314) (o := .cells #[.int .u8 a0_0, .int .u8 a0_1] 22 (0, 0)) (by (with_reducible repeat (first | refine blk_drewN ?_ _ | refine blk_drew ?_ | refine blk_alloc ?_ _)); exact BK314.out) hg (Kd.R_ne HO_317002.out BK314.out (by decide)))
       have n1_ := Aside0.mk (blk_grown (g := gb315) (o := .cells #[.int .i64 0, .int .i64 0, .slice none 0 0] 27 (0, 0)) (by (with_reducible repeat (first | refine blk_drewN ?_ _ | refine blk_drew ?_ | refine blk_alloc ?_ _)); exact BK315.out) hg (Kd.R_ne HO_317002.out BK315.out (by decide)))
       have n2_ := Aside0.mk (blk_grown (g := gb316) (o := .cells #[.int .i64 (wrap64 (1 + (wrap64 (Int.tmod a0_0 8)))), .int .i64 (wrap64 (1 + (wrap64 (Int.tmod a0_1 8)))), u317002] 27 (0, 0)) (by (with_reducible repeat (first | refine blk_drewN ?_ _ | refine blk_drew ?_ | refine blk_alloc ?_ _)); exact BK316.out) hg (Kd.R_ne HO_317002.out BK316.out (by decide)))
       have n3_ := Aside0.mk (hb)
       have n4_ := Aside0.mk (ho)
       clear BK314
       clear BK315
       clear BK316
       clear HB
       clear HO_317002
       have BK314 := n0_
       have BK315 := n1_
       have BK316 := n2_
       have HB := n3_
       have HO320 := n4_
       clear n0_ n1_ n2_ n3_ n4_
       clear ho hb hg hat
       obtain ⟨Ao17, co17, eo17⟩ := Kd.R_slice HO320.out
       (first | subst eo17 | (injection eo17 with f1_ f2_ f3_; have f4_ := f1_.symm; have f5_ := f3_.symm; clear f1_ f2_ f3_; subst f4_; subst f5_))
       refine hK.out _ _ ⟨(blk_cell BK316.out 0).trans rfl, (blk_cell BK316.out 1).trans rfl, (blk_cell BK316.out 2).trans rfl, ((HB.out.cell (World.block_lt_of_cell? w _ hw317_0)).trans hw317_0)⟩ (fun hHeld => ?_)
       clear hK K
       refine norm_ (a' := ?_) ?_ ?_
       rotate_left
       ·show Act.put _ (some 37) _ = _
        simp only [Act.put, sT, sZ, sU, i64_w, i32_w]
        rfl
       refine pure_ (i := 10) (N := some 38) (v := ?_) (a' := ?_) #[true, true, true, true, true, true, true, true, true, true, true, false] rfl rfl (any_of HT_.out (by kernel_rfl)) (fun _ _ _ h => h) (Or.inl ⟨by rfl, ?_⟩) ?_ ?_
       rotate_left
       ·intro w'
        go_simp
        with_reducible rfl
       rotate_left
       ·simp only [Act.put, sT, sZ, sU, i64_w, i32_w]
        rfl
       refine last_ (i := 11) (N := none) #[true, true, true, true, true, true, true, true, true, true, true, true] rfl rfl (one_of HT_.out (by kernel_rfl)) (by decide) (fun K hK => ?_)
       have hs18 : w16.cell? ⟨gb316, 2, none⟩ = some (u317002) := (blk_cell BK316.out 2).trans rfl
       have hfs18 := blk_frozen BK316.out 2
       have hns18_0 := NB314_316.out
       have hns18_1 := NB315_316.out
       have hms18_0 := NB316_314.out
       have hms18_1 := NB316_315.out
       refine skip_ (w1 := ?_) (by rfl) rfl ?_ ?_
       rotate_left
       ·go_simp
        rfl
       refine hK.out _ _ ?_
       clear hK K
       refine done_ (done_of HT_.out (by kernel_rfl)) ?_
       try go_wp2
       go_roundg k1
       case measure => have := HK1.out; omega
       case rel => exact ⟨(wrap64 (x6_1 + 1)), (y318), (.slice Ao17 y318.length co17), (by first | rfl | (simp; done) | (simp [*]; done)), H', ⟨by have := HK1.out; omega⟩, ⟨by (with_reducible repeat (first | apply Kd.R_alloc | apply Kd.R_drewN | apply Kd.R_drew)); exact Kd.R_mono (Kd.R_far (p := ⟨gb316, 2, none⟩) (Kd.R_types HO320.out BK316.out (by decide)) (fun _ hk => hk.2) (.slice Ao17 y318.length co17)) (fun _ hk => trivial)⟩, ⟨by (with_reducible repeat (first | refine blk_drewN ?_ _ | refine blk_drew ?_ | refine blk_alloc ?_ _)); refine blk_far ?_ NB314_316.out _; (with_reducible repeat (first | refine blk_drewN ?_ _ | refine blk_drew ?_ | refine blk_alloc ?_ _)); exact BK314.out⟩, ⟨by (with_reducible repeat (first | refine blk_drewN ?_ _ | refine blk_drew ?_ | refine blk_alloc ?_ _)); refine blk_far ?_ NB315_316.out _; (with_reducible repeat (first | refine blk_drewN ?_ _ | refine blk_drew ?_ | refine blk_alloc ?_ _)); exact BK315.out⟩, ⟨by (with_reducible repeat (first | refine blk_drewN ?_ _ | refine blk_drew ?_ | refine blk_alloc ?_ _)); refine blk_put (cs := #[.int .i64 (wrap64 (1 + (wrap64 (Int.tmod a0_0 8)))), .int .i64 (wrap64 (1 + (wrap64 (Int.tmod a0_1 8)))), u317002]) ?_ 2 _ rfl; (with_reducible repeat (first | refine blk_drewN ?_ _ | refine blk_drew ?_ | refine blk_alloc ?_ _)); exact BK316.out⟩, ⟨pB HB⟩⟩
      ·rw [if_neg c14] at H
       exact absurd H (by simp)
     ·rw [if_neg c13] at H
      exact absurd H (by simp)
    ·rw [if_neg c12] at H
     have c12b0 : decide (x6_1 < 6) = false := decide_eq_false c12
     clear c12
     simp only [Option.some.injEq, Prod.mk.injEq] at H
     obtain ⟨rfl, rfl, rfl⟩ := H
     have hnb19 := NB316_314.out
     have hnc19 := NB314_316.out
     have hnb20 := NB316_315.out
     have hnc20 := NB315_316.out
     obtain ⟨hcz21_0, hcz21_1, hcz21_2⟩ := cells3 BK316
     obtain ⟨hfz21_0, hfz21_1, hfz21_2⟩ := frz3 BK316
     have hnb22 := NB315_314.out
     have hnc22 := NB314_315.out
     obtain ⟨hcz23_0, hcz23_1, hcz23_2⟩ := cells3 BK315
     obtain ⟨hfz23_0, hfz23_1, hfz23_2⟩ := frz3 BK315
     obtain ⟨Ao24, co24, eo24⟩ := Kd.R_slice HO_317002.out
     subst eo24
     go_wp2
     refine bodyPost_ret (results_cell_row rfl _ _ gb315 27 #[.int .i64 (wrap64 (1 + (wrap64 (Int.tmod a0_0 8)))), .int .i64 (wrap64 (1 + (wrap64 (Int.tmod a0_1 8)))), .slice Ao24 x317002_1.length co24] (0, 0) _ rfl (by (with_reducible repeat (first | refine blk_drewN ?_ _ | refine blk_drew ?_ | refine blk_alloc ?_ _)); refine blk_put (cs := #[.int .i64 (wrap64 (1 + (wrap64 (Int.tmod a0_0 8)))), .int .i64 (wrap64 (1 + (wrap64 (Int.tmod a0_1 8)))), .slice none 0 0]) ?_ 2 _ rfl; (with_reducible repeat (first | refine blk_drewN ?_ _ | refine blk_drew ?_ | refine blk_alloc ?_ _)); refine blk_put (cs := #[.int .i64 (wrap64 (1 + (wrap64 (Int.tmod a0_0 8)))), .int .i64 0, .slice none 0 0]) ?_ 1 _ rfl; (with_reducible repeat (first | refine blk_drewN ?_ _ | refine blk_drew ?_ | refine blk_alloc ?_ _)); refine blk_put (cs := #[.int .i64 0, .int .i64 0, .slice none 0 0]) ?_ 0 _ rfl; (with_reducible repeat (first | refine blk_drewN ?_ _ | refine blk_drew ?_ | refine blk_alloc ?_ _)); exact BK315.out) Try.underlying27 rfl (by kernel_rfl)) rfl ?_
     exact ⟨_, by first | rfl | (simp [errW_none, errW_some] <;> rfl) | (simp [*, errW_none, errW_some] <;> rfl), by (with_reducible repeat (first | apply Kd.R_alloc | apply Kd.R_drewN | apply Kd.R_drew)); exact Kd.R_mono (Kd.R_far (p := ⟨gb315, 2, none⟩) (Kd.R_far (p := ⟨gb315, 1, none⟩) (Kd.R_far (p := ⟨gb315, 0, none⟩) (Kd.R_types HO_317002.out BK315.out (by decide)) (fun _ hk => hk.2) (.int .i64 (wrap64 (1 + (wrap64 (Int.tmod a0_0 8)))))) (fun _ hk => hk.2) (.int .i64 (wrap64 (1 + (wrap64 (Int.tmod a0_1 8)))))) (fun _ hk => hk.2) (.slice Ao24 x317002_1.length co24)) (fun _ hk => trivial), pB HB⟩
   ·rw [if_neg c11] at H
    have c11b0 : decide (x6_1 < (l1.length : Int)) = false := decide_eq_false c11
    clear c11
    simp only [Option.some.injEq, Prod.mk.injEq] at H
    obtain ⟨rfl, rfl, rfl⟩ := H
    have hnb25 := NB316_314.out
    have hnc25 := NB314_316.out
    have hnb26 := NB316_315.out
    have hnc26 := NB315_316.out
    obtain ⟨hcz27_0, hcz27_1, hcz27_2⟩ := cells3 BK316
    obtain ⟨hfz27_0, hfz27_1, hfz27_2⟩ := frz3 BK316
    have hnb28 := NB315_314.out
    have hnc28 := NB314_315.out
    obtain ⟨hcz29_0, hcz29_1, hcz29_2⟩ := cells3 BK315
    obtain ⟨hfz29_0, hfz29_1, hfz29_2⟩ := frz3 BK315
    obtain ⟨Ao30, co30, eo30⟩ := Kd.R_slice HO_317002.out
    subst eo30
    go_wp2
    refine bodyPost_ret (results_cell_row rfl _ _ gb315 27 #[.int .i64 (wrap64 (1 + (wrap64 (Int.tmod a0_0 8)))), .int .i64 (wrap64 (1 + (wrap64 (Int.tmod a0_1 8)))), .slice Ao30 x317002_1.length co30] (0, 0) _ rfl (by (with_reducible repeat (first | refine blk_drewN ?_ _ | refine blk_drew ?_ | refine blk_alloc ?_ _)); refine blk_put (cs := #[.int .i64 (wrap64 (1 + (wrap64 (Int.tmod a0_0 8)))), .int .i64 (wrap64 (1 + (wrap64 (Int.tmod a0_1 8)))), .slice none 0 0]) ?_ 2 _ rfl; (with_reducible repeat (first | refine blk_drewN ?_ _ | refine blk_drew ?_ | refine blk_alloc ?_ _)); refine blk_put (cs := #[.int .i64 (wrap64 (1 + (wrap64 (Int.tmod a0_0 8)))), .int .i64 0, .slice none 0 0]) ?_ 1 _ rfl; (with_reducible repeat (first | refine blk_drewN ?_ _ | refine blk_drew ?_ | refine blk_alloc ?_ _)); refine blk_put (cs := #[.int .i64 0, .int .i64 0, .slice none 0 0]) ?_ 0 _ rfl; (with_reducible repeat (first | refine blk_drewN ?_ _ | refine blk_drew ?_ | refine blk_alloc ?_ _)); exact BK315.out) Try.underlying27 rfl (by kernel_rfl)) rfl ?_
    exact ⟨_, by first | rfl | (simp [errW_none, errW_some] <;> rfl) | (simp [*, errW_none, errW_some] <;> rfl), by (with_reducible repeat (first | apply Kd.R_alloc | apply Kd.R_drewN | apply Kd.R_drew)); exact Kd.R_mono (Kd.R_far (p := ⟨gb315, 2, none⟩) (Kd.R_far (p := ⟨gb315, 1, none⟩) (Kd.R_far (p := ⟨gb315, 0, none⟩) (Kd.R_types HO_317002.out BK315.out (by decide)) (fun _ hk => hk.2) (.int .i64 (wrap64 (1 + (wrap64 (Int.tmod a0_0 8)))))) (fun _ hk => hk.2) (.int .i64 (wrap64 (1 + (wrap64 (Int.tmod a0_1 8)))))) (fun _ hk => hk.2) (.slice Ao30 x317002_1.length co30)) (fun _ hk => trivial), pB HB⟩
end Go.Proofs.Ytpfiecjacpbhkaa.D

namespace Go.Proofs.Ytpfiecjacpbhkaa.D
open Go.RowKit Go.Proofs.YtpfiecjacpbhkaaW.PrintWords Go.Proofs.YtpfiecjacpbhkaaW.PrintLast Go.Proofs.YtpfiecjacpbhkaaW.PrintMore
attribute [local go_sem] max2_int min2_int max_two min_two max_three min_three max_four min_four
set_option linter.unusedVariables false
set_option linter.unusedSimpArgs false
def insolvencyref33_runs.f (a0_0 : Int) (a0_1 : Int) (a0_2 : Int) (a0_3 : Int) (a0_4 : Bool) : Option (Bool) := if a0_1 = 2 then (some true) else (some (a0_1 == 4))
set_option maxHeartbeats 8000000 in
set_option maxRecDepth 100000 in
theorem insolvencyref33_runs.calls (a0_0 : Int) (a0_1 : Int) (a0_2 : Int) (a0_3 : Int) (a0_4 : Bool) (r : Bool) (w : World) (h : insolvencyref33_runs.f a0_0 a0_1 a0_2 a0_3 a0_4 = some r) :
  Calls Try.prog 43 #[.agg #[.int .i64 a0_0, .int .i64 a0_1, .int .i64 a0_2, .int .i64 a0_3, .bool a0_4]] w fun e w' => e = .returned (.bool r) ∧ Below w.heap.size w w' := by
 have hu50 := Try.underlying50
 have HB := Aside0.mk (Below.refl w.heap.size w)
 have H : (if a0_1 = 2 then (some true) else (some (a0_1 == 4))) = some r := h
 clear h
 by_cases c2 : a0_1 = 2
 ·rw [if_pos c2] at H
  have c2b0 : (a0_1 == 2) = true := beq_iff_eq.mpr c2
  have c2b1 : (a0_1 != 2) = false := bne_eq_false_iff_eq.mpr c2
  clear c2
  obtain rfl := Option.some.inj H
  go_enter Try.func43, Try.ntmps43
  go_wp2_with (first | ((with_reducible refine gate_dst (N := 1) rfl ?_); refine boxE (N := 1) #[.int .i64 a0_0, .int .i64 a0_1, .int .i64 a0_2, .int .i64 a0_3, .bool a0_4] 50 ?_; intro gb358 hg w3 hbox hb; have BK358 := Aside0.mk (hbox); have GW358 := gS HB hg; have GE358 := gS HB hg; replace HB := Aside0.mk (below_step (pB HB) hb); clear hb hbox hg; obtain ⟨hcz4_0, hcz4_1, hcz4_2, hcz4_3, hcz4_4⟩ := cells5 BK358; obtain ⟨hfz4_0, hfz4_1, hfz4_2, hfz4_3, hfz4_4⟩ := frz5 BK358))
  go_ret
  exact ⟨by first | rfl | (simp [errW_none, errW_some] <;> rfl) | (simp [*, errW_none, errW_some] <;> rfl), pB HB⟩
 ·rw [if_neg c2] at H
  have c2b0 : (a0_1 == 2) = false := beq_eq_false_iff_ne.mpr c2
  have c2b1 : (a0_1 != 2) = true := bne_iff_ne.mpr c2
  obtain rfl := Option.some.inj H
  go_enter Try.func43, Try.ntmps43
  go_wp2_with (first | ((with_reducible refine gate_dst (N := 1) rfl ?_); refine boxE (N := 1) #[.int .i64 a0_0, .int .i64 a0_1, .int .i64 a0_2, .int .i64 a0_3, .bool a0_4] 50 ?_; intro gb358 hg w5 hbox hb; have BK358 := Aside0.mk (hbox); have GW358 := gS HB hg; have GE358 := gS HB hg; replace HB := Aside0.mk (below_step (pB HB) hb); clear hb hbox hg; obtain ⟨hcz6_0, hcz6_1, hcz6_2, hcz6_3, hcz6_4⟩ := cells5 BK358; obtain ⟨hfz6_0, hfz6_1, hfz6_2, hfz6_3, hfz6_4⟩ := frz5 BK358))
  go_ret
  exact ⟨by first | rfl | (simp [errW_none, errW_some] <;> rfl) | (simp [*, errW_none, errW_some] <;> rfl), pB HB⟩
end Go.Proofs.Ytpfiecjacpbhkaa.D

namespace Go.Proofs.Ytpfiecjacpbhkaa.D
open Go.RowKit Go.Proofs.YtpfiecjacpbhkaaW.PrintWords Go.Proofs.YtpfiecjacpbhkaaW.PrintLast Go.Proofs.YtpfiecjacpbhkaaW.PrintMore
attribute [local go_sem] max2_int min2_int max_two min_two max_three min_three max_four min_four
set_option linter.unusedVariables false
set_option linter.unusedSimpArgs false
def insolvencyref33_option.f (a0 : Int) : Option (Bool) := if a0 ≥ 0 then (some (decide (a0 < 4))) else (some false)
set_option maxHeartbeats 8000000 in
set_option maxRecDepth 100000 in
theorem insolvencyref33_option.calls (a0 : Int) (r : Bool) (w : World) (h : insolvencyref33_option.f a0 = some r) :
  Calls Try.prog 59 #[.int .i64 a0] w fun e w' => e = .returned (.bool r) ∧ Drawn0 w w' := by
 have H : (if a0 ≥ 0 then (some (decide (a0 < 4))) else (some false)) = some r := h
 clear h
 by_cases c2 : a0 ≥ 0
 ·rw [if_pos c2] at H
  have c2b0 : decide (0 ≤ a0) = true := decide_eq_true c2
  clear c2
  obtain rfl := Option.some.inj H
  go_enter Try.func59, Try.ntmps59
  go_wp2
  go_ret
  exact ⟨by first | rfl | (simp; done) | (simp [*]; done), by repeat (first | exact Drawn0.refl _ | apply Drawn0.step)⟩
 ·rw [if_neg c2] at H
  have c2b0 : decide (0 ≤ a0) = false := decide_eq_false c2
  clear c2
  obtain rfl := Option.some.inj H
  go_enter Try.func59, Try.ntmps59
  go_wp2
  go_ret
  exact ⟨by first | rfl | (simp; done) | (simp [*]; done), by repeat (first | exact Drawn0.refl _ | apply Drawn0.step)⟩
end Go.Proofs.Ytpfiecjacpbhkaa.D

namespace Go.Proofs.Ytpfiecjacpbhkaa.D
open Go.RowKit Go.Proofs.YtpfiecjacpbhkaaW.PrintWords Go.Proofs.YtpfiecjacpbhkaaW.PrintLast Go.Proofs.YtpfiecjacpbhkaaW.PrintMore
attribute [local go_sem] max2_int min2_int max_two min_two max_three min_three max_four min_four
set_option linter.unusedVariables false
set_option linter.unusedSimpArgs false
mutual
def insolvencyref33_badMatter.j0 : Nat → Bool → Int → Int → Int → List Int → List (S50) → Int → Int → Int → Int → Bool → Option (Bool)
 | 0, _, _, _, _, _, _, _, _, _, _, _ => none
 | k + 1, x18, x360000, x360001, x360002, x360003, x360004, x361000, x361001, x361002, x361003, x361004 => if x18 = true then (some true) else ((insolvencyref33_runs.f x361000 x361001 x361002 x361003 x361004).bind fun t362 => (if t362 = true then (if x361002 < x360000 then (insolvencyref33_badMatter.j1 k true x361000 x361001 x361002 x361003 x361004) else (if x361002 > 1048576 then (insolvencyref33_badMatter.j1 k true x361000 x361001 x361002 x361003 x361004) else ((insolvencyref33_runs.f x361000 x361001 x361002 x361003 x361004).bind fun t363 => (if t363 = true then (insolvencyref33_badMatter.j1 k false x361000 x361001 x361002 x361003 x361004) else (insolvencyref33_badMatter.j1 k (x361002 != 0) x361000 x361001 x361002 x361003 x361004))))) else ((insolvencyref33_runs.f x361000 x361001 x361002 x361003 x361004).bind fun t364 => (if t364 = true then (insolvencyref33_badMatter.j1 k false x361000 x361001 x361002 x361003 x361004) else (insolvencyref33_badMatter.j1 k (x361002 != 0) x361000 x361001 x361002 x361003 x361004)))))
def insolvencyref33_badMatter.j1 : Nat → Bool → Int → Int → Int → Int → Bool → Option (Bool)
 | 0, _, _, _, _, _, _ => none
 | k + 1, x42, x361000, x361001, x361002, x361003, x361004 => if x42 = true then (some true) else (if x361001 ≤ 3 then (if x361003 = 0 then (if x361004 = true then (if x361001 = 6 then (some (x361003 != 0)) else (some true)) else (some false)) else (some true)) else (if x361004 = true then (if x361001 = 6 then (some (x361003 != 0)) else (some true)) else (some false)))
end
def insolvencyref33_badMatter.f (k : Nat) (a0_0 : Int) (a0_1 : Int) (a0_2 : Int) (l0_3 : List Int) (l0_4 : List (S50)) (a1_0 : Int) (a1_1 : Int) (a1_2 : Int) (a1_3 : Int) (a1_4 : Bool) : Option (Bool) := if a1_1 < 1 then (insolvencyref33_badMatter.j0 k true a0_0 a0_1 a0_2 l0_3 l0_4 a1_0 a1_1 a1_2 a1_3 a1_4) else (if a1_1 > 6 then (insolvencyref33_badMatter.j0 k true a0_0 a0_1 a0_2 l0_3 l0_4 a1_0 a1_1 a1_2 a1_3 a1_4) else ((insolvencyref33_option.f a1_3).bind fun t361 => (insolvencyref33_badMatter.j0 k (!t361) a0_0 a0_1 a0_2 l0_3 l0_4 a1_0 a1_1 a1_2 a1_3 a1_4)))
theorem insolvencyref33_badMatter.mono_l : ∀ k, (∀ y0 y1 y2 y3 y4 y5 y6 y7 y8 y9 y10, LeO (insolvencyref33_badMatter.j0 k y0 y1 y2 y3 y4 y5 y6 y7 y8 y9 y10) (insolvencyref33_badMatter.j0 (k + 1) y0 y1 y2 y3 y4 y5 y6 y7 y8 y9 y10)) ∧ (∀ y0 y1 y2 y3 y4 y5, LeO (insolvencyref33_badMatter.j1 k y0 y1 y2 y3 y4 y5) (insolvencyref33_badMatter.j1 (k + 1) y0 y1 y2 y3 y4 y5))
 | 0 => ⟨fun _ _ _ _ _ _ _ _ _ _ _ r h => by simp [insolvencyref33_badMatter.j0] at h, fun _ _ _ _ _ _ r h => by simp [insolvencyref33_badMatter.j1] at h⟩
 | k + 1 => by
  obtain ⟨ih0, ih1⟩ := insolvencyref33_badMatter.mono_l k
  refine ⟨?_, ?_⟩
  ·intro y0 y1 y2 y3 y4 y5 y6 y7 y8 y9 y10
   unfold insolvencyref33_badMatter.j0
   repeat' first
   | (with_reducible exact ih0 _ _ _ _ _ _ _ _ _ _ _)
   | (with_reducible exact ih1 _ _ _ _ _ _)
   | (with_reducible exact LeO.refl _)
   | (with_reducible exact LeO.none _)
   | (with_reducible refine LeO.ite ?_ ?_)
   | (with_reducible refine LeO.bind ?_ (fun _ => ?_))
   | exact ih0 _ _ _ _ _ _ _ _ _ _ _
   | exact ih1 _ _ _ _ _ _
   | exact LeO.none _
   | refine LeO.ite ?_ ?_
   | refine LeO.bind ?_ (fun _ => ?_)
  ·intro y0 y1 y2 y3 y4 y5
   unfold insolvencyref33_badMatter.j1
   repeat' first
   | (with_reducible exact ih0 _ _ _ _ _ _ _ _ _ _ _)
   | (with_reducible exact ih1 _ _ _ _ _ _)
   | (with_reducible exact LeO.refl _)
   | (with_reducible exact LeO.none _)
   | (with_reducible refine LeO.ite ?_ ?_)
   | (with_reducible refine LeO.bind ?_ (fun _ => ?_))
   | exact ih0 _ _ _ _ _ _ _ _ _ _ _
   | exact ih1 _ _ _ _ _ _
   | exact LeO.none _
   | refine LeO.ite ?_ ?_
   | refine LeO.bind ?_ (fun _ => ?_)
theorem insolvencyref33_badMatter.mono : ∀ a0 a1 a2 a3 a4 a5 a6 a7 a8 a9 k, LeO (insolvencyref33_badMatter.f k a0 a1 a2 a3 a4 a5 a6 a7 a8 a9) (insolvencyref33_badMatter.f (k + 1) a0 a1 a2 a3 a4 a5 a6 a7 a8 a9) := by
 intro a0 a1 a2 a3 a4 a5 a6 a7 a8 a9 k
 obtain ⟨ih0, ih1⟩ := insolvencyref33_badMatter.mono_l k
 unfold insolvencyref33_badMatter.f
 repeat' first
   | (with_reducible exact ih0 _ _ _ _ _ _ _ _ _ _ _)
   | (with_reducible exact ih1 _ _ _ _ _ _)
   | (with_reducible exact LeO.refl _)
   | (with_reducible exact LeO.none _)
   | (with_reducible refine LeO.ite ?_ ?_)
   | (with_reducible refine LeO.bind ?_ (fun _ => ?_))
   | exact ih0 _ _ _ _ _ _ _ _ _ _ _
   | exact ih1 _ _ _ _ _ _
   | exact LeO.none _
   | refine LeO.ite ?_ ?_
   | refine LeO.bind ?_ (fun _ => ?_)
set_option maxHeartbeats 8000000 in
set_option maxRecDepth 100000 in
theorem insolvencyref33_badMatter.calls (k : Nat) (a0_0 : Int) (a0_1 : Int) (a0_2 : Int) (A0_3 : Option Addr) (c0_3 : Nat) (l0_3 : List Int) (A0_4 : Option Addr) (c0_4 : Nat) (l0_4 : List (S50)) (a1_0 : Int) (a1_1 : Int) (a1_2 : Int) (a1_3 : Int) (a1_4 : Bool) (r : Bool) (w : World) (hr0_3 : Kd.C (Kd.int .i64) w A0_3 l0_3.length l0_3) (hc0_3 : l0_3.length ≤ c0_3) (hr0_4 : Kd.C k50 w A0_4 l0_4.length l0_4) (hc0_4 : l0_4.length ≤ c0_4) (h : insolvencyref33_badMatter.f k a0_0 a0_1 a0_2 l0_3 l0_4 a1_0 a1_1 a1_2 a1_3 a1_4 = some r) :
  Calls Try.prog 41 #[.agg #[.int .i64 a0_0, .int .i64 a0_1, .int .i64 a0_2, .slice A0_3 l0_3.length c0_3, .slice A0_4 l0_4.length c0_4], .agg #[.int .i64 a1_0, .int .i64 a1_1, .int .i64 a1_2, .int .i64 a1_3, .bool a1_4]] w fun e w' => e = .returned (.bool r) ∧ Below w.heap.size w w' := by
 have hu30 := Try.underlying30
 have hu50 := Try.underlying50
 have HR0_3 := Aside0.mk hr0_3
 have HC0_3 := Aside0.mk hc0_3
 clear hr0_3 hc0_3
 have HR0_4 := Aside0.mk hr0_4
 have HC0_4 := Aside0.mk hc0_4
 clear hr0_4 hc0_4
 have HB := Aside0.mk (Below.refl w.heap.size w)
 have H : (if a1_1 < 1 then (insolvencyref33_badMatter.j0 k true a0_0 a0_1 a0_2 l0_3 l0_4 a1_0 a1_1 a1_2 a1_3 a1_4) else (if a1_1 > 6 then (insolvencyref33_badMatter.j0 k true a0_0 a0_1 a0_2 l0_3 l0_4 a1_0 a1_1 a1_2 a1_3 a1_4) else ((insolvencyref33_option.f a1_3).bind fun t361 => (insolvencyref33_badMatter.j0 k (!t361) a0_0 a0_1 a0_2 l0_3 l0_4 a1_0 a1_1 a1_2 a1_3 a1_4)))) = some r := h
 clear h
 have HC3 := Aside0.mk H
 clear H
 go_enter Try.func41, Try.ntmps41
 go_upto_region 1 with (first | ((with_reducible refine gate_dst (N := 2) rfl ?_); refine boxE (N := 2) #[.int .i64 a0_0, .int .i64 a0_1, .int .i64 a0_2, .slice A0_3 l0_3.length c0_3, .slice A0_4 l0_4.length c0_4] 30 ?_; intro gb359 hg w4 hbox hb; have BK359 := Aside0.mk (hbox); have GW359 := gS HB hg; have GE359 := gS HB hg; replace HB := Aside0.mk (below_step (pB HB) hb); clear hb hbox hg) | ((with_reducible refine gate_dst (N := 3) rfl ?_); refine boxE (N := 3) #[.int .i64 a1_0, .int .i64 a1_1, .int .i64 a1_2, .int .i64 a1_3, .bool a1_4] 50 ?_; intro gb360 hg w5 hbox hb; have BK360 := Aside0.mk (hbox); have GW360 := gS HB hg; have GE360 := gS HB hg; have NB359_360 := nL BK359 hg; have NB360_359 := nG BK359 hg; replace BK359 := bB BK359 hb; replace HB := Aside0.mk (below_step (pB HB) hb); clear hb hbox hg))
 (try simp only [Act.put, sT, sZ, sU])
 go_cut [18] (fun v18 wc => ∃ (kq : Nat) (x18_2 : Bool), v18 = .bool x18_2 ∧ Aside0 (insolvencyref33_badMatter.j0 kq x18_2 a0_0 a0_1 a0_2 l0_3 l0_4 a1_0 a1_1 a1_2 a1_3 a1_4 = some r) ∧ Aside0 (kq ≤ k) ∧ Aside0 (wc.heap[gb359]? = some (.cells #[.int .i64 a0_0, .int .i64 a0_1, .int .i64 a0_2, (.slice A0_3 l0_3.length c0_3), (.slice A0_4 l0_4.length c0_4)] 30 (0, 0))) ∧ Aside0 (wc.heap[gb360]? = some (.cells #[.int .i64 a1_0, .int .i64 a1_1, .int .i64 a1_2, .int .i64 a1_3, .bool a1_4] 50 (0, 0))) ∧ Aside0 (Below w.heap.size w wc))
 case first =>
  have H := HC3.out
  clear HC3
  by_cases c6 : a1_1 < 1
  ·rw [if_pos c6] at H
   have c6b0 : decide (a1_1 < 1) = true := decide_eq_true c6
   clear c6
   (first | rw [c6b0] | (simp only [i64_w, i32_w]; rw [c6b0]) | skip)
   have H' := Aside0.mk H
   clear H
   have hnb7 := NB360_359.out
   have hnc7 := NB359_360.out
   obtain ⟨hcz8_0, hcz8_1, hcz8_2, hcz8_3, hcz8_4⟩ := cells5 BK360
   obtain ⟨hfz8_0, hfz8_1, hfz8_2, hfz8_3, hfz8_4⟩ := frz5 BK360
   go_wp2
   go_meet
   case rel => exact ⟨_, (true), (by first | rfl | (simp; done) | (simp [*]; done)), H', ⟨by first | omega | exact Nat.le_refl _⟩, ⟨by (with_reducible repeat (first | refine blk_drewN ?_ _ | refine blk_drew ?_ | refine blk_alloc ?_ _)); exact BK359.out⟩, ⟨by (with_reducible repeat (first | refine blk_drewN ?_ _ | refine blk_drew ?_ | refine blk_alloc ?_ _)); exact BK360.out⟩, ⟨pB HB⟩⟩
  ·rw [if_neg c6] at H
   have c6b0 : decide (a1_1 < 1) = false := decide_eq_false c6
   clear c6
   (first | rw [c6b0] | (simp only [i64_w, i32_w]; rw [c6b0]) | skip)
   by_cases c9 : a1_1 > 6
   ·rw [if_pos c9] at H
    have c9b0 : decide (6 < a1_1) = true := decide_eq_true c9
    clear c9
    have H' := Aside0.mk H
    clear H
    have hnb10 := NB360_359.out
    have hnc10 := NB359_360.out
    obtain ⟨hcz11_0, hcz11_1, hcz11_2, hcz11_3, hcz11_4⟩ := cells5 BK360
    obtain ⟨hfz11_0, hfz11_1, hfz11_2, hfz11_3, hfz11_4⟩ := frz5 BK360
    go_wp2
    go_meet
    case rel => exact ⟨_, (true), (by first | rfl | (simp; done) | (simp [*]; done)), H', ⟨by first | omega | exact Nat.le_refl _⟩, ⟨by (with_reducible repeat (first | refine blk_drewN ?_ _ | refine blk_drew ?_ | refine blk_alloc ?_ _)); exact BK359.out⟩, ⟨by (with_reducible repeat (first | refine blk_drewN ?_ _ | refine blk_drew ?_ | refine blk_alloc ?_ _)); exact BK360.out⟩, ⟨pB HB⟩⟩
   ·rw [if_neg c9] at H
    have c9b0 : decide (6 < a1_1) = false := decide_eq_false c9
    clear c9
    replace H := Option.bind_eq_some_iff.mp H
    obtain ⟨t361, A120, H⟩ := H
    replace H : (insolvencyref33_badMatter.j0 k (!t361) a0_0 a0_1 a0_2 l0_3 l0_4 a1_0 a1_1 a1_2 a1_3 a1_4) = some r := H
    have A12 := Aside0.mk A120
    clear A120
    have H' := Aside0.mk H
    clear H
    have hnb13 := NB360_359.out
    have hnc13 := NB359_360.out
    obtain ⟨hcz14_0, hcz14_1, hcz14_2, hcz14_3, hcz14_4⟩ := cells5 BK360
    obtain ⟨hfz14_0, hfz14_1, hfz14_2, hfz14_3, hfz14_4⟩ := frz5 BK360
    go_wp2_with (first | (go_at_call 59; (with_reducible refine (insolvencyref33_option.calls a1_3 t361 _ A12.out).mono ?_); rintro e w' ⟨rfl, ⟨nd, rfl⟩⟩))
    go_meet
    case rel => exact ⟨_, (!t361), (by first | rfl | (simp; done) | (simp [*]; done)), H', ⟨by first | omega | exact Nat.le_refl _⟩, ⟨by (with_reducible repeat (first | refine blk_drewN ?_ _ | refine blk_drew ?_ | refine blk_alloc ?_ _)); exact BK359.out⟩, ⟨by (with_reducible repeat (first | refine blk_drewN ?_ _ | refine blk_drew ?_ | refine blk_alloc ?_ _)); exact BK360.out⟩, ⟨pB HB⟩⟩
 case rest =>
  clear HC3
  try clear c1
  try clear p2
  try clear c4
  try clear c6
  try clear c6b0
  try clear c7
  try clear c9
  try clear c9b0
  try clear c10
  try clear c13
  obtain ⟨kq, x18_2, rfl, HA, HJ2, BK359, BK360, HB⟩ := hcut
  cases kq with
  | zero => exact absurd HA.out (by simp [insolvencyref33_badMatter.j0])
  | succ kj2 =>
   have H := HA.out
   clear HA
   simp only [insolvencyref33_badMatter.j0] at H
   by_cases c15 : x18_2 = true
   ·subst c15
    have H1 : (some true) = some r := by rw [if_pos rfl] at H; exact H
    clear H
    have H := H1
    clear H1
    obtain rfl := Option.some.inj H
    go_wp2
    go_ret
    exact ⟨by first | rfl | (simp [errW_none, errW_some] <;> rfl) | (simp [*, errW_none, errW_some] <;> rfl), pB HB⟩
   ·replace c15 := Bool.eq_false_iff.mpr c15
    subst c15
    have H1 : ((insolvencyref33_runs.f a1_0 a1_1 a1_2 a1_3 a1_4).bind fun t362 => (if t362 = true then (if a1_2 < a0_0 then (insolvencyref33_badMatter.j1 kj2 true a1_0 a1_1 a1_2 a1_3 a1_4) else (if a1_2 > 1048576 then (insolvencyref33_badMatter.j1 kj2 true a1_0 a1_1 a1_2 a1_3 a1_4) else ((insolvencyref33_runs.f a1_0 a1_1 a1_2 a1_3 a1_4).bind fun t363 => (if t363 = true then (insolvencyref33_badMatter.j1 kj2 false a1_0 a1_1 a1_2 a1_3 a1_4) else (insolvencyref33_badMatter.j1 kj2 (a1_2 != 0) a1_0 a1_1 a1_2 a1_3 a1_4))))) else ((insolvencyref33_runs.f a1_0 a1_1 a1_2 a1_3 a1_4).bind fun t364 => (if t364 = true then (insolvencyref33_badMatter.j1 kj2 false a1_0 a1_1 a1_2 a1_3 a1_4) else (insolvencyref33_badMatter.j1 kj2 (a1_2 != 0) a1_0 a1_1 a1_2 a1_3 a1_4))))) = some r := by rw [if_neg (show ¬ (false = true) by decide)] at H; exact H
    clear H
    have H := H1
    clear H1
    have HC16 := Aside0.mk H
    clear H
    go_upto_region 3 with (fail)
    go_cut [42] (fun v42 wc => ∃ (kq : Nat) (x42_15 : Bool), v42 = .bool x42_15 ∧ Aside0 (insolvencyref33_badMatter.j1 kq x42_15 a1_0 a1_1 a1_2 a1_3 a1_4 = some r) ∧ Aside0 (kq ≤ kj2) ∧ Aside0 (wc.heap[gb359]? = some (.cells #[.int .i64 a0_0, .int .i64 a0_1, .int .i64 a0_2, (.slice A0_3 l0_3.length c0_3), (.slice A0_4 l0_4.length c0_4)] 30 (0, 0))) ∧ Aside0 (wc.heap[gb360]? = some (.cells #[.int .i64 a1_0, .int .i64 a1_1, .int .i64 a1_2, .int .i64 a1_3, .bool a1_4] 50 (0, 0))) ∧ Aside0 (Below w.heap.size w wc))
    case first =>
     have H := HC16.out
     clear HC16
     replace H := Option.bind_eq_some_iff.mp H
     obtain ⟨t362, A170, H⟩ := H
     replace H : (if t362 = true then (if a1_2 < a0_0 then (insolvencyref33_badMatter.j1 kj2 true a1_0 a1_1 a1_2 a1_3 a1_4) else (if a1_2 > 1048576 then (insolvencyref33_badMatter.j1 kj2 true a1_0 a1_1 a1_2 a1_3 a1_4) else ((insolvencyref33_runs.f a1_0 a1_1 a1_2 a1_3 a1_4).bind fun t363 => (if t363 = true then (insolvencyref33_badMatter.j1 kj2 false a1_0 a1_1 a1_2 a1_3 a1_4) else (insolvencyref33_badMatter.j1 kj2 (a1_2 != 0) a1_0 a1_1 a1_2 a1_3 a1_4))))) else ((insolvencyref33_runs.f a1_0 a1_1 a1_2 a1_3 a1_4).bind fun t364 => (if t364 = true then (insolvencyref33_badMatter.j1 kj2 false a1_0 a1_1 a1_2 a1_3 a1_4) else (insolvencyref33_badMatter.j1 kj2 (a1_2 != 0) a1_0 a1_1 a1_2 a1_3 a1_4)))) = some r := H
     have A17 := Aside0.mk A170
     clear A170
     by_cases c18 : t362 = true
     ·subst c18
      have H1 : (if a1_2 < a0_0 then (insolvencyref33_badMatter.j1 kj2 true a1_0 a1_1 a1_2 a1_3 a1_4) else (if a1_2 > 1048576 then (insolvencyref33_badMatter.j1 kj2 true a1_0 a1_1 a1_2 a1_3 a1_4) else ((insolvencyref33_runs.f a1_0 a1_1 a1_2 a1_3 a1_4).bind fun t363 => (if t363 = true then (insolvencyref33_badMatter.j1 kj2 false a1_0 a1_1 a1_2 a1_3 a1_4) else (insolvencyref33_badMatter.j1 kj2 (a1_2 != 0) a1_0 a1_1 a1_2 a1_3 a1_4))))) = some r := by rw [if_pos rfl] at H; exact H
      clear H
      have H := H1
      clear H1
      by_cases c19 : a1_2 < a0_0
      ·rw [if_pos c19] at H
       have c19b0 : decide (a1_2 < a0_0) = true := decide_eq_true c19
       clear c19
       (first | rw [c19b0] | (simp only [i64_w, i32_w]; rw [c19b0]) | skip)
       have H' := Aside0.mk H
       clear H
       have hnb20 := NB360_359.out
       have hnc20 := NB359_360.out
       obtain ⟨hcz21_0, hcz21_1, hcz21_2, hcz21_3, hcz21_4⟩ := cells5 BK360
       obtain ⟨hfz21_0, hfz21_1, hfz21_2, hfz21_3, hfz21_4⟩ := frz5 BK360
       go_wp2_with (first | ((with_reducible refine gate_callee (f := 43) rfl ?_); refine goesL_ (some 20) rfl rfl Try.func43 (by kernel_rfl) rfl #[.agg #[.int .i64 a1_0, .int .i64 a1_1, .int .i64 a1_2, .int .i64 a1_3, .bool a1_4]] rfl (by (try simp only [List.map_toArray, List.map_cons, List.map_nil]); first | done | rfl | (simp only [List.length_drop, List.length_take]; rfl)) ?_; (with_reducible refine (insolvencyref33_runs.calls a1_0 a1_1 a1_2 a1_3 a1_4 true _ A17.out).mono ?_); rintro e w22 ⟨rfl, hb⟩; refine ⟨_, rfl, ?_⟩; replace BK359 := bB BK359 hb; replace BK360 := bB BK360 hb; replace HB := Aside0.mk (below_step (pB HB) hb); (try clear hb); obtain ⟨hcz23_0, hcz23_1, hcz23_2, hcz23_3, hcz23_4⟩ := cells5 BK360; obtain ⟨hfz23_0, hfz23_1, hfz23_2, hfz23_3, hfz23_4⟩ := frz5 BK360; obtain ⟨hcz24_0, hcz24_1, hcz24_2, hcz24_3, hcz24_4⟩ := cells5 BK359; obtain ⟨hfz24_0, hfz24_1, hfz24_2, hfz24_3, hfz24_4⟩ := frz5 BK359))
       go_meet
       case rel => exact ⟨_, (true), (by first | rfl | (simp; done) | (simp [*]; done)), H', ⟨by have := HJ2.out; first | omega | exact Nat.le_refl _⟩, ⟨by (with_reducible repeat (first | refine blk_drewN ?_ _ | refine blk_drew ?_ | refine blk_alloc ?_ _)); exact BK359.out⟩, ⟨by (with_reducible repeat (first | refine blk_drewN ?_ _ | refine blk_drew ?_ | refine blk_alloc ?_ _)); exact BK360.out⟩, ⟨pB HB⟩⟩
      ·rw [if_neg c19] at H
       have c19b0 : decide (a1_2 < a0_0) = false := decide_eq_false c19
       clear c19
       (first | rw [c19b0] | (simp only [i64_w, i32_w]; rw [c19b0]) | skip)
       by_cases c25 : a1_2 > 1048576
       ·rw [if_pos c25] at H
        have c25b0 : decide (1048576 < a1_2) = true := decide_eq_true c25
        clear c25
        have H' := Aside0.mk H
        clear H
        have hnb26 := NB360_359.out
        have hnc26 := NB359_360.out
        obtain ⟨hcz27_0, hcz27_1, hcz27_2, hcz27_3, hcz27_4⟩ := cells5 BK360
        obtain ⟨hfz27_0, hfz27_1, hfz27_2, hfz27_3, hfz27_4⟩ := frz5 BK360
        go_wp2_with (first | ((with_reducible refine gate_callee (f := 43) rfl ?_); refine goesL_ (some 20) rfl rfl Try.func43 (by kernel_rfl) rfl #[.agg #[.int .i64 a1_0, .int .i64 a1_1, .int .i64 a1_2, .int .i64 a1_3, .bool a1_4]] rfl (by (try simp only [List.map_toArray, List.map_cons, List.map_nil]); first | done | rfl | (simp only [List.length_drop, List.length_take]; rfl)) ?_; (with_reducible refine (insolvencyref33_runs.calls a1_0 a1_1 a1_2 a1_3 a1_4 true _ A17.out).mono ?_); rintro e w28 ⟨rfl, hb⟩; refine ⟨_, rfl, ?_⟩; replace BK359 := bB BK359 hb; replace BK360 := bB BK360 hb; replace HB := Aside0.mk (below_step (pB HB) hb); (try clear hb); obtain ⟨hcz29_0, hcz29_1, hcz29_2, hcz29_3, hcz29_4⟩ := cells5 BK360; obtain ⟨hfz29_0, hfz29_1, hfz29_2, hfz29_3, hfz29_4⟩ := frz5 BK360; obtain ⟨hcz30_0, hcz30_1, hcz30_2, hcz30_3, hcz30_4⟩ := cells5 BK359; obtain ⟨hfz30_0, hfz30_1, hfz30_2, hfz30_3, hfz30_4⟩ := frz5 BK359))
        go_meet
        case rel => exact ⟨_, (true), (by first | rfl | (simp; done) | (simp [*]; done)), H', ⟨by have := HJ2.out; first | omega | exact Nat.le_refl _⟩, ⟨by (with_reducible repeat (first | refine blk_drewN ?_ _ | refine blk_drew ?_ | refine blk_alloc ?_ _)); exact BK359.out⟩, ⟨by (with_reducible repeat (first | refine blk_drewN ?_ _ | refine blk_drew ?_ | refine blk_alloc ?_ _)); exact BK360.out⟩, ⟨pB HB⟩⟩
       ·rw [if_neg c25] at H
        have c25b0 : decide (1048576 < a1_2) = false := decide_eq_false c25
        clear c25
        replace H := Option.bind_eq_some_iff.mp H
        obtain ⟨t363, A310, H⟩ := H
        replace H : (if t363 = true then (insolvencyref33_badMatter.j1 kj2 false a1_0 a1_1 a1_2 a1_3 a1_4) else (insolvencyref33_badMatter.j1 kj2 (a1_2 != 0) a1_0 a1_1 a1_2 a1_3 a1_4)) = some r := H
        have A31 := Aside0.mk A310
        clear A310
        by_cases c32 : t363 = true
        ·subst c32
         have H1 : (insolvencyref33_badMatter.j1 kj2 false a1_0 a1_1 a1_2 a1_3 a1_4) = some r := by rw [if_pos rfl] at H; exact H
         clear H
         have H := H1
         clear H1
         have H' := Aside0.mk H
         clear H
         have hnb33 := NB360_359.out
         have hnc33 := NB359_360.out
         obtain ⟨hcz34_0, hcz34_1, hcz34_2, hcz34_3, hcz34_4⟩ := cells5 BK360
         obtain ⟨hfz34_0, hfz34_1, hfz34_2, hfz34_3, hfz34_4⟩ := frz5 BK360
         go_wp2_with (first | ((with_reducible refine gate_callee (f := 43) rfl ?_); refine goesL_ (some 20) rfl rfl Try.func43 (by kernel_rfl) rfl #[.agg #[.int .i64 a1_0, .int .i64 a1_1, .int .i64 a1_2, .int .i64 a1_3, .bool a1_4]] rfl (by (try simp only [List.map_toArray, List.map_cons, List.map_nil]); first | done | rfl | (simp only [List.length_drop, List.length_take]; rfl)) ?_; (with_reducible refine (insolvencyref33_runs.calls a1_0 a1_1 a1_2 a1_3 a1_4 true _ A17.out).mono ?_); rintro e w35 ⟨rfl, hb⟩; refine ⟨_, rfl, ?_⟩; replace BK359 := bB BK359 hb; replace BK360 := bB BK360 hb; replace HB := Aside0.mk (below_step (pB HB) hb); (try clear hb); obtain ⟨hcz36_0, hcz36_1, hcz36_2, hcz36_3, hcz36_4⟩ := cells5 BK360; obtain ⟨hfz36_0, hfz36_1, hfz36_2, hfz36_3, hfz36_4⟩ := frz5 BK360; obtain ⟨hcz37_0, hcz37_1, hcz37_2, hcz37_3, hcz37_4⟩ := cells5 BK359; obtain ⟨hfz37_0, hfz37_1, hfz37_2, hfz37_3, hfz37_4⟩ := frz5 BK359) | (go_at_call 43; (with_reducible refine (insolvencyref33_runs.calls a1_0 a1_1 a1_2 a1_3 a1_4 true _ A31.out).mono ?_); rintro e w38 ⟨rfl, hb⟩; replace BK359 := bB BK359 hb; replace BK360 := bB BK360 hb; replace HB := Aside0.mk (below_step (pB HB) hb); (try clear hb)))
         go_meet
         case rel => exact ⟨_, (false), (by first | rfl | (simp; done) | (simp [*]; done)), H', ⟨by have := HJ2.out; first | omega | exact Nat.le_refl _⟩, ⟨by (with_reducible repeat (first | refine blk_drewN ?_ _ | refine blk_drew ?_ | refine blk_alloc ?_ _)); exact BK359.out⟩, ⟨by (with_reducible repeat (first | refine blk_drewN ?_ _ | refine blk_drew ?_ | refine blk_alloc ?_ _)); exact BK360.out⟩, ⟨pB HB⟩⟩
        ·replace c32 := Bool.eq_false_iff.mpr c32
         subst c32
         have H1 : (insolvencyref33_badMatter.j1 kj2 (a1_2 != 0) a1_0 a1_1 a1_2 a1_3 a1_4) = some r := by rw [if_neg (show ¬ (false = true) by decide)] at H; exact H
         clear H
         have H := H1
         clear H1
         have H' := Aside0.mk H
         clear H
         have hnb39 := NB360_359.out
         have hnc39 := NB359_360.out
         obtain ⟨hcz40_0, hcz40_1, hcz40_2, hcz40_3, hcz40_4⟩ := cells5 BK360
         obtain ⟨hfz40_0, hfz40_1, hfz40_2, hfz40_3, hfz40_4⟩ := frz5 BK360
         go_wp2_with (first | ((with_reducible refine gate_callee (f := 43) rfl ?_); refine goesL_ (some 20) rfl rfl Try.func43 (by kernel_rfl) rfl #[.agg #[.int .i64 a1_0, .int .i64 a1_1, .int .i64 a1_2, .int .i64 a1_3, .bool a1_4]] rfl (by (try simp only [List.map_toArray, List.map_cons, List.map_nil]); first | done | rfl | (simp only [List.length_drop, List.length_take]; rfl)) ?_; (with_reducible refine (insolvencyref33_runs.calls a1_0 a1_1 a1_2 a1_3 a1_4 true _ A17.out).mono ?_); rintro e w41 ⟨rfl, hb⟩; refine ⟨_, rfl, ?_⟩; replace BK359 := bB BK359 hb; replace BK360 := bB BK360 hb; replace HB := Aside0.mk (below_step (pB HB) hb); (try clear hb); obtain ⟨hcz42_0, hcz42_1, hcz42_2, hcz42_3, hcz42_4⟩ := cells5 BK360; obtain ⟨hfz42_0, hfz42_1, hfz42_2, hfz42_3, hfz42_4⟩ := frz5 BK360; obtain ⟨hcz43_0, hcz43_1, hcz43_2, hcz43_3, hcz43_4⟩ := cells5 BK359; obtain ⟨hfz43_0, hfz43_1, hfz43_2, hfz43_3, hfz43_4⟩ := frz5 BK359) | (go_at_call 43; (with_reducible refine (insolvencyref33_runs.calls a1_0 a1_1 a1_2 a1_3 a1_4 false _ A31.out).mono ?_); rintro e w44 ⟨rfl, hb⟩; replace BK359 := bB BK359 hb; replace BK360 := bB BK360 hb; replace HB := Aside0.mk (below_step (pB HB) hb); (try clear hb); obtain ⟨hcz45_0, hcz45_1, hcz45_2, hcz45_3, hcz45_4⟩ := cells5 BK360; obtain ⟨hfz45_0, hfz45_1, hfz45_2, hfz45_3, hfz45_4⟩ := frz5 BK360))
         go_meet
         case rel => exact ⟨_, ((a1_2 != 0)), (by first | rfl | (simp; done) | (simp [*]; done)), H', ⟨by have := HJ2.out; first | omega | exact Nat.le_refl _⟩, ⟨by (with_reducible repeat (first | refine blk_drewN ?_ _ | refine blk_drew ?_ | refine blk_alloc ?_ _)); exact BK359.out⟩, ⟨by (with_reducible repeat (first | refine blk_drewN ?_ _ | refine blk_drew ?_ | refine blk_alloc ?_ _)); exact BK360.out⟩, ⟨pB HB⟩⟩
     ·replace c18 := Bool.eq_false_iff.mpr c18
      subst c18
      have H1 : ((insolvencyref33_runs.f a1_0 a1_1 a1_2 a1_3 a1_4).bind fun t364 => (if t364 = true then (insolvencyref33_badMatter.j1 kj2 false a1_0 a1_1 a1_2 a1_3 a1_4) else (insolvencyref33_badMatter.j1 kj2 (a1_2 != 0) a1_0 a1_1 a1_2 a1_3 a1_4))) = some r := by rw [if_neg (show ¬ (false = true) by decide)] at H; exact H
      clear H
      have H := H1
      clear H1
      replace H := Option.bind_eq_some_iff.mp H
      obtain ⟨t364, A460, H⟩ := H
      replace H : (if t364 = true then (insolvencyref33_badMatter.j1 kj2 false a1_0 a1_1 a1_2 a1_3 a1_4) else (insolvencyref33_badMatter.j1 kj2 (a1_2 != 0) a1_0 a1_1 a1_2 a1_3 a1_4)) = some r := H
      have A46 := Aside0.mk A460
      clear A460
      by_cases c47 : t364 = true
      ·subst c47
       have H1 : (insolvencyref33_badMatter.j1 kj2 false a1_0 a1_1 a1_2 a1_3 a1_4) = some r := by rw [if_pos rfl] at H; exact H
       clear H
       have H := H1
       clear H1
       have H' := Aside0.mk H
       clear H
       have hnb48 := NB360_359.out
       have hnc48 := NB359_360.out
       obtain ⟨hcz49_0, hcz49_1, hcz49_2, hcz49_3, hcz49_4⟩ := cells5 BK360
       obtain ⟨hfz49_0, hfz49_1, hfz49_2, hfz49_3, hfz49_4⟩ := frz5 BK360
       go_wp2_with (first | ((with_reducible refine gate_callee (f := 43) rfl ?_); refine goesL_ (some 20) rfl rfl Try.func43 (by kernel_rfl) rfl #[.agg #[.int .i64 a1_0, .int .i64 a1_1, .int .i64 a1_2, .int .i64 a1_3, .bool a1_4]] rfl (by (try simp only [List.map_toArray, List.map_cons, List.map_nil]); first | done | rfl | (simp only [List.length_drop, List.length_take]; rfl)) ?_; (with_reducible refine (insolvencyref33_runs.calls a1_0 a1_1 a1_2 a1_3 a1_4 false _ A17.out).mono ?_); rintro e w50 ⟨rfl, hb⟩; refine ⟨_, rfl, ?_⟩; replace BK359 := bB BK359 hb; replace BK360 := bB BK360 hb; replace HB := Aside0.mk (below_step (pB HB) hb); (try clear hb); obtain ⟨hcz51_0, hcz51_1, hcz51_2, hcz51_3, hcz51_4⟩ := cells5 BK360; obtain ⟨hfz51_0, hfz51_1, hfz51_2, hfz51_3, hfz51_4⟩ := frz5 BK360) | (go_at_call 43; (with_reducible refine (insolvencyref33_runs.calls a1_0 a1_1 a1_2 a1_3 a1_4 true _ A46.out).mono ?_); rintro e w52 ⟨rfl, hb⟩; replace BK359 := bB BK359 hb; replace BK360 := bB BK360 hb; replace HB := Aside0.mk (below_step (pB HB) hb); (try clear hb)))
       go_meet
       case rel => exact ⟨_, (false), (by first | rfl | (simp; done) | (simp [*]; done)), H', ⟨by have := HJ2.out; first | omega | exact Nat.le_refl _⟩, ⟨by (with_reducible repeat (first | refine blk_drewN ?_ _ | refine blk_drew ?_ | refine blk_alloc ?_ _)); exact BK359.out⟩, ⟨by (with_reducible repeat (first | refine blk_drewN ?_ _ | refine blk_drew ?_ | refine blk_alloc ?_ _)); exact BK360.out⟩, ⟨pB HB⟩⟩
      ·replace c47 := Bool.eq_false_iff.mpr c47
       subst c47
       have H1 : (insolvencyref33_badMatter.j1 kj2 (a1_2 != 0) a1_0 a1_1 a1_2 a1_3 a1_4) = some r := by rw [if_neg (show ¬ (false = true) by decide)] at H; exact H
       clear H
       have H := H1
       clear H1
       have H' := Aside0.mk H
       clear H
       have hnb53 := NB360_359.out
       have hnc53 := NB359_360.out
       obtain ⟨hcz54_0, hcz54_1, hcz54_2, hcz54_3, hcz54_4⟩ := cells5 BK360
       obtain ⟨hfz54_0, hfz54_1, hfz54_2, hfz54_3, hfz54_4⟩ := frz5 BK360
       go_wp2_with (first | ((with_reducible refine gate_callee (f := 43) rfl ?_); refine goesL_ (some 20) rfl rfl Try.func43 (by kernel_rfl) rfl #[.agg #[.int .i64 a1_0, .int .i64 a1_1, .int .i64 a1_2, .int .i64 a1_3, .bool a1_4]] rfl (by (try simp only [List.map_toArray, List.map_cons, List.map_nil]); first | done | rfl | (simp only [List.length_drop, List.length_take]; rfl)) ?_; (with_reducible refine (insolvencyref33_runs.calls a1_0 a1_1 a1_2 a1_3 a1_4 false _ A17.out).mono ?_); rintro e w55 ⟨rfl, hb⟩; refine ⟨_, rfl, ?_⟩; replace BK359 := bB BK359 hb; replace BK360 := bB BK360 hb; replace HB := Aside0.mk (below_step (pB HB) hb); (try clear hb); obtain ⟨hcz56_0, hcz56_1, hcz56_2, hcz56_3, hcz56_4⟩ := cells5 BK360; obtain ⟨hfz56_0, hfz56_1, hfz56_2, hfz56_3, hfz56_4⟩ := frz5 BK360) | (go_at_call 43; (with_reducible refine (insolvencyref33_runs.calls a1_0 a1_1 a1_2 a1_3 a1_4 false _ A46.out).mono ?_); rintro e w57 ⟨rfl, hb⟩; replace BK359 := bB BK359 hb; replace BK360 := bB BK360 hb; replace HB := Aside0.mk (below_step (pB HB) hb); (try clear hb); obtain ⟨hcz58_0, hcz58_1, hcz58_2, hcz58_3, hcz58_4⟩ := cells5 BK360; obtain ⟨hfz58_0, hfz58_1, hfz58_2, hfz58_3, hfz58_4⟩ := frz5 BK360))
       go_meet
       case rel => exact ⟨_, ((a1_2 != 0)), (by first | rfl | (simp; done) | (simp [*]; done)), H', ⟨by have := HJ2.out; first | omega | exact Nat.le_refl _⟩, ⟨by (with_reducible repeat (first | refine blk_drewN ?_ _ | refine blk_drew ?_ | refine blk_alloc ?_ _)); exact BK359.out⟩, ⟨by (with_reducible repeat (first | refine blk_drewN ?_ _ | refine blk_drew ?_ | refine blk_alloc ?_ _)); exact BK360.out⟩, ⟨pB HB⟩⟩
    case rest =>
     clear HC16
     try clear c1
     try clear c2
     try clear p2
     try clear c3
     try clear c4
     try clear c5
     try clear c6
     try clear c6b0
     try clear c7
     try clear c9
     try clear c9b0
     try clear c10
     try clear c13
     try clear c15
     try clear c18
     try clear c19
     try clear c19b0
     try clear c20
     try clear c25
     try clear c25b0
     try clear c26
     try clear c32
     try clear c33
     try clear c39
     try clear c41
     try clear c43
     try clear c47
     try clear c48
     try clear c53
     try clear p2
     obtain ⟨kq, x42_15, rfl, HA, HJ15, BK359, BK360, HB⟩ := hcut
     cases kq with
     | zero => exact absurd HA.out (by simp [insolvencyref33_badMatter.j1])
     | succ kj15 =>
      have H := HA.out
      clear HA
      simp only [insolvencyref33_badMatter.j1] at H
      by_cases c59 : x42_15 = true
      ·subst c59
       have H1 : (some true) = some r := by rw [if_pos rfl] at H; exact H
       clear H
       have H := H1
       clear H1
       obtain rfl := Option.some.inj H
       go_wp2
       go_ret
       exact ⟨by first | rfl | (simp [errW_none, errW_some] <;> rfl) | (simp [*, errW_none, errW_some] <;> rfl), pB HB⟩
      ·replace c59 := Bool.eq_false_iff.mpr c59
       subst c59
       have H1 : (if a1_1 ≤ 3 then (if a1_3 = 0 then (if a1_4 = true then (if a1_1 = 6 then (some (a1_3 != 0)) else (some true)) else (some false)) else (some true)) else (if a1_4 = true then (if a1_1 = 6 then (some (a1_3 != 0)) else (some true)) else (some false))) = some r := by rw [if_neg (show ¬ (false = true) by decide)] at H; exact H
       clear H
       have H := H1
       clear H1
       by_cases c60 : a1_1 ≤ 3
       ·rw [if_pos c60] at H
        have c60b0 : decide (a1_1 ≤ 3) = true := decide_eq_true c60
        clear c60
        by_cases c61 : a1_3 = 0
        ·rw [if_pos c61] at H
         have c61b0 : (a1_3 == 0) = true := beq_iff_eq.mpr c61
         have c61b1 : (a1_3 != 0) = false := bne_eq_false_iff_eq.mpr c61
         clear c61
         by_cases c62 : a1_4 = true
         ·subst c62
          have H1 : (if a1_1 = 6 then (some (a1_3 != 0)) else (some true)) = some r := by rw [if_pos rfl] at H; exact H
          clear H
          have H := H1
          clear H1
          by_cases c63 : a1_1 = 6
          ·rw [if_pos c63] at H
           have c63b0 : (a1_1 == 6) = true := beq_iff_eq.mpr c63
           have c63b1 : (a1_1 != 6) = false := bne_eq_false_iff_eq.mpr c63
           clear c63
           obtain rfl := Option.some.inj H
           have hnb64 := NB360_359.out
           have hnc64 := NB359_360.out
           obtain ⟨hcz65_0, hcz65_1, hcz65_2, hcz65_3, hcz65_4⟩ := cells5 BK360
           obtain ⟨hfz65_0, hfz65_1, hfz65_2, hfz65_3, hfz65_4⟩ := frz5 BK360
           go_wp2
           go_ret
           exact ⟨by first | rfl | (simp [errW_none, errW_some] <;> rfl) | (simp [*, errW_none, errW_some] <;> rfl), pB HB⟩
          ·rw [if_neg c63] at H
           have c63b0 : (a1_1 == 6) = false := beq_eq_false_iff_ne.mpr c63
           have c63b1 : (a1_1 != 6) = true := bne_iff_ne.mpr c63
           obtain rfl := Option.some.inj H
           have hnb66 := NB360_359.out
           have hnc66 := NB359_360.out
           obtain ⟨hcz67_0, hcz67_1, hcz67_2, hcz67_3, hcz67_4⟩ := cells5 BK360
           obtain ⟨hfz67_0, hfz67_1, hfz67_2, hfz67_3, hfz67_4⟩ := frz5 BK360
           go_wp2
           go_ret
           exact ⟨by first | rfl | (simp [errW_none, errW_some] <;> rfl) | (simp [*, errW_none, errW_some] <;> rfl), pB HB⟩
         ·replace c62 := Bool.eq_false_iff.mpr c62
          subst c62
          have H1 : (some false) = some r := by rw [if_neg (show ¬ (false = true) by decide)] at H; exact H
          clear H
          have H := H1
          clear H1
          obtain rfl := Option.some.inj H
          have hnb68 := NB360_359.out
          have hnc68 := NB359_360.out
          obtain ⟨hcz69_0, hcz69_1, hcz69_2, hcz69_3, hcz69_4⟩ := cells5 BK360
          obtain ⟨hfz69_0, hfz69_1, hfz69_2, hfz69_3, hfz69_4⟩ := frz5 BK360
          go_wp2
          go_ret
          exact ⟨by first | rfl | (simp [errW_none, errW_some] <;> rfl) | (simp [*, errW_none, errW_some] <;> rfl), pB HB⟩
        ·rw [if_neg c61] at H
         have c61b0 : (a1_3 == 0) = false := beq_eq_false_iff_ne.mpr c61
         have c61b1 : (a1_3 != 0) = true := bne_iff_ne.mpr c61
         obtain rfl := Option.some.inj H
         have hnb70 := NB360_359.out
         have hnc70 := NB359_360.out
         obtain ⟨hcz71_0, hcz71_1, hcz71_2, hcz71_3, hcz71_4⟩ := cells5 BK360
         obtain ⟨hfz71_0, hfz71_1, hfz71_2, hfz71_3, hfz71_4⟩ := frz5 BK360
         go_wp2
         go_ret
         exact ⟨by first | rfl | (simp [errW_none, errW_some] <;> rfl) | (simp [*, errW_none, errW_some] <;> rfl), pB HB⟩
       ·rw [if_neg c60] at H
        have c60b0 : decide (a1_1 ≤ 3) = false := decide_eq_false c60
        clear c60
        by_cases c72 : a1_4 = true
        ·subst c72
         have H1 : (if a1_1 = 6 then (some (a1_3 != 0)) else (some true)) = some r := by rw [if_pos rfl] at H; exact H
         clear H
         have H := H1
         clear H1
         by_cases c73 : a1_1 = 6
         ·rw [if_pos c73] at H
          have c73b0 : (a1_1 == 6) = true := beq_iff_eq.mpr c73
          have c73b1 : (a1_1 != 6) = false := bne_eq_false_iff_eq.mpr c73
          clear c73
          obtain rfl := Option.some.inj H
          have hnb74 := NB360_359.out
          have hnc74 := NB359_360.out
          obtain ⟨hcz75_0, hcz75_1, hcz75_2, hcz75_3, hcz75_4⟩ := cells5 BK360
          obtain ⟨hfz75_0, hfz75_1, hfz75_2, hfz75_3, hfz75_4⟩ := frz5 BK360
          go_wp2
          go_ret
          exact ⟨by first | rfl | (simp [errW_none, errW_some] <;> rfl) | (simp [*, errW_none, errW_some] <;> rfl), pB HB⟩
         ·rw [if_neg c73] at H
          have c73b0 : (a1_1 == 6) = false := beq_eq_false_iff_ne.mpr c73
          have c73b1 : (a1_1 != 6) = true := bne_iff_ne.mpr c73
          obtain rfl := Option.some.inj H
          have hnb76 := NB360_359.out
          have hnc76 := NB359_360.out
          obtain ⟨hcz77_0, hcz77_1, hcz77_2, hcz77_3, hcz77_4⟩ := cells5 BK360
          obtain ⟨hfz77_0, hfz77_1, hfz77_2, hfz77_3, hfz77_4⟩ := frz5 BK360
          go_wp2
          go_ret
          exact ⟨by first | rfl | (simp [errW_none, errW_some] <;> rfl) | (simp [*, errW_none, errW_some] <;> rfl), pB HB⟩
        ·replace c72 := Bool.eq_false_iff.mpr c72
         subst c72
         have H1 : (some false) = some r := by rw [if_neg (show ¬ (false = true) by decide)] at H; exact H
         clear H
         have H := H1
         clear H1
         obtain rfl := Option.some.inj H
         have hnb78 := NB360_359.out
         have hnc78 := NB359_360.out
         obtain ⟨hcz79_0, hcz79_1, hcz79_2, hcz79_3, hcz79_4⟩ := cells5 BK360
         obtain ⟨hfz79_0, hfz79_1, hfz79_2, hfz79_3, hfz79_4⟩ := frz5 BK360
         go_wp2
         go_ret
         exact ⟨by first | rfl | (simp [errW_none, errW_some] <;> rfl) | (simp [*, errW_none, errW_some] <;> rfl), pB HB⟩
end Go.Proofs.Ytpfiecjacpbhkaa.D

namespace Go.Proofs.Ytpfiecjacpbhkaa.D
open Go.RowKit Go.Proofs.YtpfiecjacpbhkaaW.PrintWords Go.Proofs.YtpfiecjacpbhkaaW.PrintLast Go.Proofs.YtpfiecjacpbhkaaW.PrintMore
attribute [local go_sem] max2_int min2_int max_two min_two max_three min_three max_four min_four
set_option linter.unusedVariables false
set_option linter.unusedSimpArgs false
mutual
def insolvencyref33_CheckDocket.l0 : Nat → Int → Int → Int → Int → List Int → List (S50) → Option (Int)
 | 0, _, _, _, _, _, _ => none
 | k + 1, x4, x366000, x366001, x366002, x366003, x366004 => if x4 < (x366004.length : Int) then (if 0 ≤ x4 then (if ((rd_T50 x366004 x4).f0) < 0 then (some 1) else (insolvencyref33_CheckDocket.l1 k x4 0 x366000 x366001 x366002 x366003 x366004 ((rd_T50 x366004 x4).f0) ((rd_T50 x366004 x4).f1) ((rd_T50 x366004 x4).f2) ((rd_T50 x366004 x4).f3) ((rd_T50 x366004 x4).f4))) else (none)) else (some 0)
def insolvencyref33_CheckDocket.l1 : Nat → Int → Int → Int → Int → Int → List Int → List (S50) → Int → Int → Int → Int → Bool → Option (Int)
 | 0, _, _, _, _, _, _, _, _, _, _, _, _ => none
 | k + 1, x4, x6, x366000, x366001, x366002, x366003, x366004, x369000, x369001, x369002, x369003, x369004 => if x6 < x4 then (if 0 ≤ x6 then (if x6 < (x366004.length : Int) then (if ((rd_T50 x366004 x6).f0) = x369000 then (some 12) else (insolvencyref33_CheckDocket.l1 k x4 (wrap64 (x6 + 1)) x366000 x366001 x366002 x366003 x366004 x369000 x369001 x369002 x369003 x369004)) else (none)) else (none)) else ((insolvencyref33_badMatter.f k x366000 x366001 x366002 x366003 x366004 x369000 x369001 x369002 x369003 x369004).bind fun t370 => (if t370 = true then (some 1) else (insolvencyref33_CheckDocket.l0 k (wrap64 (x4 + 1)) x366000 x366001 x366002 x366003 x366004)))
end
def insolvencyref33_CheckDocket.f (k : Nat) (a0_0 : Int) (a0_1 : Int) (a0_2 : Int) (l0_3 : List Int) (l0_4 : List (S50)) : Option (Int) := (insolvencyref33_checkTerms.f a0_0 a0_1 a0_2 l0_3).bind fun t366 => (if t366 = 0 then (if (l0_4.length : Int) > 32 then (some 2) else (insolvencyref33_CheckDocket.l0 k 0 a0_0 a0_1 a0_2 l0_3 l0_4)) else (some t366))
theorem insolvencyref33_CheckDocket.mono_l : ∀ k, (∀ y0 y1 y2 y3 y4 y5, LeO (insolvencyref33_CheckDocket.l0 k y0 y1 y2 y3 y4 y5) (insolvencyref33_CheckDocket.l0 (k + 1) y0 y1 y2 y3 y4 y5)) ∧ (∀ y0 y1 y2 y3 y4 y5 y6 y7 y8 y9 y10 y11, LeO (insolvencyref33_CheckDocket.l1 k y0 y1 y2 y3 y4 y5 y6 y7 y8 y9 y10 y11) (insolvencyref33_CheckDocket.l1 (k + 1) y0 y1 y2 y3 y4 y5 y6 y7 y8 y9 y10 y11))
 | 0 => ⟨fun _ _ _ _ _ _ r h => by simp [insolvencyref33_CheckDocket.l0] at h, fun _ _ _ _ _ _ _ _ _ _ _ _ r h => by simp [insolvencyref33_CheckDocket.l1] at h⟩
 | k + 1 => by
  obtain ⟨ih0, ih1⟩ := insolvencyref33_CheckDocket.mono_l k
  refine ⟨?_, ?_⟩
  ·intro y0 y1 y2 y3 y4 y5
   unfold insolvencyref33_CheckDocket.l0
   repeat' first
   | (with_reducible exact ih0 _ _ _ _ _ _)
   | (with_reducible exact ih1 _ _ _ _ _ _ _ _ _ _ _ _)
   | (with_reducible exact insolvencyref33_badMatter.mono _ _ _ _ _ _ _ _ _ _ _)
   | (with_reducible exact LeO.refl _)
   | (with_reducible exact LeO.none _)
   | (with_reducible refine LeO.ite ?_ ?_)
   | (with_reducible refine LeO.bind ?_ (fun _ => ?_))
   | exact ih0 _ _ _ _ _ _
   | exact ih1 _ _ _ _ _ _ _ _ _ _ _ _
   | exact insolvencyref33_badMatter.mono _ _ _ _ _ _ _ _ _ _ _
   | exact LeO.none _
   | refine LeO.ite ?_ ?_
   | refine LeO.bind ?_ (fun _ => ?_)
  ·intro y0 y1 y2 y3 y4 y5 y6 y7 y8 y9 y10 y11
   unfold insolvencyref33_CheckDocket.l1
   repeat' first
   | (with_reducible exact ih0 _ _ _ _ _ _)
   | (with_reducible exact ih1 _ _ _ _ _ _ _ _ _ _ _ _)
   | (with_reducible exact insolvencyref33_badMatter.mono _ _ _ _ _ _ _ _ _ _ _)
   | (with_reducible exact LeO.refl _)
   | (with_reducible exact LeO.none _)
   | (with_reducible refine LeO.ite ?_ ?_)
   | (with_reducible refine LeO.bind ?_ (fun _ => ?_))
   | exact ih0 _ _ _ _ _ _
   | exact ih1 _ _ _ _ _ _ _ _ _ _ _ _
   | exact insolvencyref33_badMatter.mono _ _ _ _ _ _ _ _ _ _ _
   | exact LeO.none _
   | refine LeO.ite ?_ ?_
   | refine LeO.bind ?_ (fun _ => ?_)
theorem insolvencyref33_CheckDocket.mono : ∀ a0 a1 a2 a3 a4 k, LeO (insolvencyref33_CheckDocket.f k a0 a1 a2 a3 a4) (insolvencyref33_CheckDocket.f (k + 1) a0 a1 a2 a3 a4) := by
 intro a0 a1 a2 a3 a4 k
 obtain ⟨ih0, ih1⟩ := insolvencyref33_CheckDocket.mono_l k
 unfold insolvencyref33_CheckDocket.f
 repeat' first
   | (with_reducible exact ih0 _ _ _ _ _ _)
   | (with_reducible exact ih1 _ _ _ _ _ _ _ _ _ _ _ _)
   | (with_reducible exact insolvencyref33_badMatter.mono _ _ _ _ _ _ _ _ _ _ _)
   | (with_reducible exact LeO.refl _)
   | (with_reducible exact LeO.none _)
   | (with_reducible refine LeO.ite ?_ ?_)
   | (with_reducible refine LeO.bind ?_ (fun _ => ?_))
   | exact ih0 _ _ _ _ _ _
   | exact ih1 _ _ _ _ _ _ _ _ _ _ _ _
   | exact insolvencyref33_badMatter.mono _ _ _ _ _ _ _ _ _ _ _
   | exact LeO.none _
   | refine LeO.ite ?_ ?_
   | refine LeO.bind ?_ (fun _ => ?_)
set_option maxHeartbeats 8000000 in
set_option maxRecDepth 100000 in
theorem insolvencyref33_CheckDocket.calls (k : Nat) (a0_0 : Int) (a0_1 : Int) (a0_2 : Int) (A0_3 : Option Addr) (c0_3 : Nat) (l0_3 : List Int) (A0_4 : Option Addr) (c0_4 : Nat) (l0_4 : List (S50)) (r : Int) (w : World) (hr0_3 : Kd.C (Kd.int .i64) w A0_3 l0_3.length l0_3) (hc0_3 : l0_3.length ≤ c0_3) (hr0_4 : Kd.C k50 w A0_4 l0_4.length l0_4) (hc0_4 : l0_4.length ≤ c0_4) (h : insolvencyref33_CheckDocket.f k a0_0 a0_1 a0_2 l0_3 l0_4 = some r) :
  Calls Try.prog 24 #[.agg #[.int .i64 a0_0, .int .i64 a0_1, .int .i64 a0_2, .slice A0_3 l0_3.length c0_3, .slice A0_4 l0_4.length c0_4]] w fun e w' => e = .returned (.int .i64 r) ∧ Below w.heap.size w w' := by
 have hu30 := Try.underlying30
 have hu27 := Try.underlying27
 have hu50 := Try.underlying50
 have HR0_3 := Aside0.mk hr0_3
 have HC0_3 := Aside0.mk hc0_3
 clear hr0_3 hc0_3
 have HR0_4 := Aside0.mk hr0_4
 have HC0_4 := Aside0.mk hc0_4
 clear hr0_4 hc0_4
 have HB := Aside0.mk (Below.refl w.heap.size w)
 have H : ((insolvencyref33_checkTerms.f a0_0 a0_1 a0_2 l0_3).bind fun t366 => (if t366 = 0 then (if (l0_4.length : Int) > 32 then (some 2) else (insolvencyref33_CheckDocket.l0 k 0 a0_0 a0_1 a0_2 l0_3 l0_4)) else (some t366))) = some r := h
 clear h
 replace H := Option.bind_eq_some_iff.mp H
 obtain ⟨t366, A20, H⟩ := H
 replace H : (if t366 = 0 then (if (l0_4.length : Int) > 32 then (some 2) else (insolvencyref33_CheckDocket.l0 k 0 a0_0 a0_1 a0_2 l0_3 l0_4)) else (some t366)) = some r := H
 have A2 := Aside0.mk A20
 clear A20
 by_cases c3 : t366 = 0
 ·rw [if_pos c3] at H
  have c3b0 : (t366 == 0) = true := beq_iff_eq.mpr c3
  have c3b1 : (t366 != 0) = false := bne_eq_false_iff_eq.mpr c3
  clear c3
  by_cases c4 : (l0_4.length : Int) > 32
  ·rw [if_pos c4] at H
   have c4b0 : decide (32 < (l0_4.length : Int)) = true := decide_eq_true c4
   have c4b1 : decide (32 < l0_4.length) = true := decide_eq_true (by omega)
   clear c4
   obtain rfl := Option.some.inj H
   go_enter Try.func24, Try.ntmps24
   go_wp2_with (first | ((with_reducible refine gate_dst (N := 1) rfl ?_); refine boxE (N := 1) #[.int .i64 a0_0, .int .i64 a0_1, .int .i64 a0_2, .slice A0_3 l0_3.length c0_3, .slice A0_4 l0_4.length c0_4] 30 ?_; intro gb365 hg w5 hbox hb; have BK365 := Aside0.mk (hbox); have GW365 := gS HB hg; have GE365 := gS HB hg; replace HB := Aside0.mk (below_step (pB HB) hb); clear hb hbox hg; obtain ⟨hcz6_0, hcz6_1, hcz6_2, hcz6_3, hcz6_4⟩ := cells5 BK365; obtain ⟨hfz6_0, hfz6_1, hfz6_2, hfz6_3, hfz6_4⟩ := frz5 BK365) | (go_at_call 40; (with_reducible refine (insolvencyref33_checkTerms.calls a0_0 a0_1 a0_2 _ _ l0_3 t366 _ ?side1 ?side2 A2.out).mono ?_); (case side1 => exact cB HR0_3 HB); (case side2 => exact HC0_3.out); rintro e w7 ⟨rfl, hb⟩; replace BK365 := bB BK365 hb; replace HB := Aside0.mk (below_step (pB HB) hb); (try clear hb); obtain ⟨hcz8_0, hcz8_1, hcz8_2, hcz8_3, hcz8_4⟩ := cells5 BK365; obtain ⟨hfz8_0, hfz8_1, hfz8_2, hfz8_3, hfz8_4⟩ := frz5 BK365))
   repeat (go_quiet (first | ((with_reducible refine gate_dst (N := 1) rfl ?_); refine boxE (N := 1) #[.int .i64 a0_0, .int .i64 a0_1, .int .i64 a0_2, .slice A0_3 l0_3.length c0_3, .slice A0_4 l0_4.length c0_4] 30 ?_; intro gb365 hg w5 hbox hb; have BK365 := Aside0.mk (hbox); have GW365 := gS HB hg; have GE365 := gS HB hg; replace HB := Aside0.mk (below_step (pB HB) hb); clear hb hbox hg; obtain ⟨hcz6_0, hcz6_1, hcz6_2, hcz6_3, hcz6_4⟩ := cells5 BK365; obtain ⟨hfz6_0, hfz6_1, hfz6_2, hfz6_3, hfz6_4⟩ := frz5 BK365) | (go_at_call 40; (with_reducible refine (insolvencyref33_checkTerms.calls a0_0 a0_1 a0_2 _ _ l0_3 t366 _ ?side1 ?side2 A2.out).mono ?_); (case side1 => exact cB HR0_3 HB); (case side2 => exact HC0_3.out); rintro e w7 ⟨rfl, hb⟩; replace BK365 := bB BK365 hb; replace HB := Aside0.mk (below_step (pB HB) hb); (try clear hb); (try clear hb2); (try clear hk); (try clear hi); obtain ⟨hcz8_0, hcz8_1, hcz8_2, hcz8_3, hcz8_4⟩ := cells5 BK365; obtain ⟨hfz8_0, hfz8_1, hfz8_2, hfz8_3, hfz8_4⟩ := frz5 BK365)); try go_wp2_with (first | ((with_reducible refine gate_dst (N := 1) rfl ?_); refine boxE (N := 1) #[.int .i64 a0_0, .int .i64 a0_1, .int .i64 a0_2, .slice A0_3 l0_3.length c0_3, .slice A0_4 l0_4.length c0_4] 30 ?_; intro gb365 hg w5 hbox hb; have BK365 := Aside0.mk (hbox); have GW365 := gS HB hg; have GE365 := gS HB hg; replace HB := Aside0.mk (below_step (pB HB) hb); clear hb hbox hg; obtain ⟨hcz6_0, hcz6_1, hcz6_2, hcz6_3, hcz6_4⟩ := cells5 BK365; obtain ⟨hfz6_0, hfz6_1, hfz6_2, hfz6_3, hfz6_4⟩ := frz5 BK365) | (go_at_call 40; (with_reducible refine (insolvencyref33_checkTerms.calls a0_0 a0_1 a0_2 _ _ l0_3 t366 _ ?side1 ?side2 A2.out).mono ?_); (case side1 => exact cB HR0_3 HB); (case side2 => exact HC0_3.out); rintro e w7 ⟨rfl, hb⟩; replace BK365 := bB BK365 hb; replace HB := Aside0.mk (below_step (pB HB) hb); (try clear hb); (try clear hb2); (try clear hk); (try clear hi); obtain ⟨hcz8_0, hcz8_1, hcz8_2, hcz8_3, hcz8_4⟩ := cells5 BK365; obtain ⟨hfz8_0, hfz8_1, hfz8_2, hfz8_3, hfz8_4⟩ := frz5 BK365)))
   go_ret
   exact ⟨by first | rfl | (simp [errW_none, errW_some] <;> rfl) | (simp [*, errW_none, errW_some] <;> rfl), pB HB⟩
  ·rw [if_neg c4] at H
   have c4b0 : decide (32 < (l0_4.length : Int)) = false := decide_eq_false c4
   have c4b1 : decide (32 < l0_4.length) = false := decide_eq_false (by omega)
   clear c4
   have H' := Aside0.mk H
   clear H
   go_enter Try.func24, Try.ntmps24
   go_wp2_with (first | ((with_reducible refine gate_dst (N := 1) rfl ?_); refine boxE (N := 1) #[.int .i64 a0_0, .int .i64 a0_1, .int .i64 a0_2, .slice A0_3 l0_3.length c0_3, .slice A0_4 l0_4.length c0_4] 30 ?_; intro gb365 hg w9 hbox hb; have BK365 := Aside0.mk (hbox); have GW365 := gS HB hg; have GE365 := gS HB hg; replace HB := Aside0.mk (below_step (pB HB) hb); clear hb hbox hg; obtain ⟨hcz10_0, hcz10_1, hcz10_2, hcz10_3, hcz10_4⟩ := cells5 BK365; obtain ⟨hfz10_0, hfz10_1, hfz10_2, hfz10_3, hfz10_4⟩ := frz5 BK365) | (go_at_call 40; (with_reducible refine (insolvencyref33_checkTerms.calls a0_0 a0_1 a0_2 _ _ l0_3 t366 _ ?side1 ?side2 A2.out).mono ?_); (case side1 => exact cB HR0_3 HB); (case side2 => exact HC0_3.out); rintro e w11 ⟨rfl, hb⟩; replace BK365 := bB BK365 hb; replace HB := Aside0.mk (below_step (pB HB) hb); (try clear hb); obtain ⟨hcz12_0, hcz12_1, hcz12_2, hcz12_3, hcz12_4⟩ := cells5 BK365; obtain ⟨hfz12_0, hfz12_1, hfz12_2, hfz12_3, hfz12_4⟩ := frz5 BK365))
   repeat (go_quiet (first | ((with_reducible refine gate_dst (N := 1) rfl ?_); refine boxE (N := 1) #[.int .i64 a0_0, .int .i64 a0_1, .int .i64 a0_2, .slice A0_3 l0_3.length c0_3, .slice A0_4 l0_4.length c0_4] 30 ?_; intro gb365 hg w9 hbox hb; have BK365 := Aside0.mk (hbox); have GW365 := gS HB hg; have GE365 := gS HB hg; replace HB := Aside0.mk (below_step (pB HB) hb); clear hb hbox hg; obtain ⟨hcz10_0, hcz10_1, hcz10_2, hcz10_3, hcz10_4⟩ := cells5 BK365; obtain ⟨hfz10_0, hfz10_1, hfz10_2, hfz10_3, hfz10_4⟩ := frz5 BK365) | (go_at_call 40; (with_reducible refine (insolvencyref33_checkTerms.calls a0_0 a0_1 a0_2 _ _ l0_3 t366 _ ?side1 ?side2 A2.out).mono ?_); (case side1 => exact cB HR0_3 HB); (case side2 => exact HC0_3.out); rintro e w11 ⟨rfl, hb⟩; replace BK365 := bB BK365 hb; replace HB := Aside0.mk (below_step (pB HB) hb); (try clear hb); (try clear hb2); (try clear hk); (try clear hi); obtain ⟨hcz12_0, hcz12_1, hcz12_2, hcz12_3, hcz12_4⟩ := cells5 BK365; obtain ⟨hfz12_0, hfz12_1, hfz12_2, hfz12_3, hfz12_4⟩ := frz5 BK365)); try go_wp2_with (first | ((with_reducible refine gate_dst (N := 1) rfl ?_); refine boxE (N := 1) #[.int .i64 a0_0, .int .i64 a0_1, .int .i64 a0_2, .slice A0_3 l0_3.length c0_3, .slice A0_4 l0_4.length c0_4] 30 ?_; intro gb365 hg w9 hbox hb; have BK365 := Aside0.mk (hbox); have GW365 := gS HB hg; have GE365 := gS HB hg; replace HB := Aside0.mk (below_step (pB HB) hb); clear hb hbox hg; obtain ⟨hcz10_0, hcz10_1, hcz10_2, hcz10_3, hcz10_4⟩ := cells5 BK365; obtain ⟨hfz10_0, hfz10_1, hfz10_2, hfz10_3, hfz10_4⟩ := frz5 BK365) | (go_at_call 40; (with_reducible refine (insolvencyref33_checkTerms.calls a0_0 a0_1 a0_2 _ _ l0_3 t366 _ ?side1 ?side2 A2.out).mono ?_); (case side1 => exact cB HR0_3 HB); (case side2 => exact HC0_3.out); rintro e w11 ⟨rfl, hb⟩; replace BK365 := bB BK365 hb; replace HB := Aside0.mk (below_step (pB HB) hb); (try clear hb); (try clear hb2); (try clear hk); (try clear hi); obtain ⟨hcz12_0, hcz12_1, hcz12_2, hcz12_3, hcz12_4⟩ := cells5 BK365; obtain ⟨hfz12_0, hfz12_1, hfz12_2, hfz12_3, hfz12_4⟩ := frz5 BK365)))
   go_loopg [4] k (fun kq v4 w' => ∃ (x4_1 : Int), v4 = .int .i64 x4_1 ∧ Aside0 (insolvencyref33_CheckDocket.l0 kq x4_1 a0_0 a0_1 a0_2 l0_3 l0_4 = some r) ∧ Aside0 (kq ≤ k) ∧ Aside0 (w'.heap[gb365]? = some (.cells #[.int .i64 a0_0, .int .i64 a0_1, .int .i64 a0_2, (.slice A0_3 l0_3.length c0_3), (.slice A0_4 l0_4.length c0_4)] 30 (0, 0))) ∧ Aside0 (Below w.heap.size w w'))
   case atStart => exact ⟨(0), (by first | rfl | (simp; done) | (simp [*]; done)), H', ⟨Nat.le_refl _⟩, ⟨by (with_reducible repeat (first | refine blk_drewN ?_ _ | refine blk_drew ?_ | refine blk_alloc ?_ _)); exact BK365.out⟩, ⟨pB HB⟩⟩
   case round =>
    clear H'
    try clear c2
    try clear p2
    try clear c3
    try clear c3b0
    try clear c3b1
    try clear c4
    try clear c4b0
    try clear c4b1
    obtain ⟨x4_1, rfl, HA, HK1, BK365, HB⟩ := hrel
    cases gk with
    | zero => exact absurd HA.out (by simp [insolvencyref33_CheckDocket.l0])
    | succ k1 =>
     have H := HA.out
     clear HA
     simp only [insolvencyref33_CheckDocket.l0] at H
     by_cases c13 : x4_1 < (l0_4.length : Int)
     ·rw [if_pos c13] at H
      have c13b0 : decide (x4_1 < (l0_4.length : Int)) = true := decide_eq_true c13
      clear c13
      by_cases c14 : 0 ≤ x4_1
      ·rw [if_pos c14] at H
       have c14b0 : decide (0 ≤ x4_1) = true := decide_eq_true c14
       clear c14
       by_cases c15 : ((rd_T50 l0_4 x4_1).f0) < 0
       ·rw [if_pos c15] at H
        have c15b0 : decide (((rd_T50 l0_4 x4_1).f0) < 0) = true := decide_eq_true c15
        clear c15
        obtain rfl := Option.some.inj H
        obtain ⟨hcz16_0, hcz16_1, hcz16_2, hcz16_3, hcz16_4⟩ := cells5 BK365
        obtain ⟨hfz16_0, hfz16_1, hfz16_2, hfz16_3, hfz16_4⟩ := frz5 BK365
        have p367 : 0 ≤ (x4_1 : Int) := of_decide_eq_true (by first | (with_reducible assumption) | assumption)
        have q367 : x4_1 < (l0_4.length : Int) := of_decide_eq_true (by first | (with_reducible assumption) | assumption)
        obtain ⟨ad367, e367, hx367_0, hx367_1, hx367_2, hx367_3, hx367_4⟩ := at_T50 HR0_4.out x4_1 p367 q367
        cases e367
        replace hx367_0 := (HB.out.cell (World.block_lt_of_cell? w _ hx367_0)).trans hx367_0
        replace hx367_1 := (HB.out.cell (World.block_lt_of_cell? w _ hx367_1)).trans hx367_1
        replace hx367_2 := (HB.out.cell (World.block_lt_of_cell? w _ hx367_2)).trans hx367_2
        replace hx367_3 := (HB.out.cell (World.block_lt_of_cell? w _ hx367_3)).trans hx367_3
        replace hx367_4 := (HB.out.cell (World.block_lt_of_cell? w _ hx367_4)).trans hx367_4
        replace p367 := eq_true p367
        replace q367 := eq_true q367
        go_wp2_with (first | ((with_reducible refine gate_dst (N := 5) rfl ?_); refine boxE (N := 5) #[.int .i64 0, .int .i64 0, .int .i64 0, .int .i64 0, .bool false] 50 ?_; intro gb368 hg w17 hbox hb; have BK368 := Aside0.mk (hbox); have GW368 := gS HB hg; have GE368 := gS HB hg; have NB365_368 := nL BK365 hg; have NB368_365 := nG BK365 hg; replace BK365 := bB BK365 hb; replace HB := Aside0.mk (below_step (pB HB) hb); clear hb hbox hg; have hnb18 := NB368_365.out; have hnc18 := NB365_368.out; obtain ⟨hcz19_0, hcz19_1, hcz19_2, hcz19_3, hcz19_4⟩ := cells5 BK368; obtain ⟨hfz19_0, hfz19_1, hfz19_2, hfz19_3, hfz19_4⟩ := frz5 BK368))
        repeat (go_quiet (first | ((with_reducible refine gate_dst (N := 5) rfl ?_); refine boxE (N := 5) #[.int .i64 0, .int .i64 0, .int .i64 0, .int .i64 0, .bool false] 50 ?_; intro gb368 hg w17 hbox hb; have BK368 := Aside0.mk (hbox); have GW368 := gS HB hg; have GE368 := gS HB hg; have NB365_368 := nL BK365 hg; have NB368_365 := nG BK365 hg; replace BK365 := bB BK365 hb; replace HB := Aside0.mk (below_step (pB HB) hb); clear hb hbox hg; have hnb18 := NB368_365.out; have hnc18 := NB365_368.out; obtain ⟨hcz19_0, hcz19_1, hcz19_2, hcz19_3, hcz19_4⟩ := cells5 BK368; obtain ⟨hfz19_0, hfz19_1, hfz19_2, hfz19_3, hfz19_4⟩ := frz5 BK368)); try go_wp2_with (first | ((with_reducible refine gate_dst (N := 5) rfl ?_); refine boxE (N := 5) #[.int .i64 0, .int .i64 0, .int .i64 0, .int .i64 0, .bool false] 50 ?_; intro gb368 hg w17 hbox hb; have BK368 := Aside0.mk (hbox); have GW368 := gS HB hg; have GE368 := gS HB hg; have NB365_368 := nL BK365 hg; have NB368_365 := nG BK365 hg; replace BK365 := bB BK365 hb; replace HB := Aside0.mk (below_step (pB HB) hb); clear hb hbox hg; have hnb18 := NB368_365.out; have hnc18 := NB365_368.out; obtain ⟨hcz19_0, hcz19_1, hcz19_2, hcz19_3, hcz19_4⟩ := cells5 BK368; obtain ⟨hfz19_0, hfz19_1, hfz19_2, hfz19_3, hfz19_4⟩ := frz5 BK368)))
        go_ret
        exact ⟨by first | rfl | (simp [errW_none, errW_some] <;> rfl) | (simp [*, errW_none, errW_some] <;> rfl), pB HB⟩
       ·rw [if_neg c15] at H
        have c15b0 : decide (((rd_T50 l0_4 x4_1).f0) < 0) = false := decide_eq_false c15
        clear c15
        have H' := Aside0.mk H
        clear H
        obtain ⟨hcz20_0, hcz20_1, hcz20_2, hcz20_3, hcz20_4⟩ := cells5 BK365
        obtain ⟨hfz20_0, hfz20_1, hfz20_2, hfz20_3, hfz20_4⟩ := frz5 BK365
        have p367 : 0 ≤ (x4_1 : Int) := of_decide_eq_true (by first | (with_reducible assumption) | assumption)
        have q367 : x4_1 < (l0_4.length : Int) := of_decide_eq_true (by first | (with_reducible assumption) | assumption)
        obtain ⟨ad367, e367, hx367_0, hx367_1, hx367_2, hx367_3, hx367_4⟩ := at_T50 HR0_4.out x4_1 p367 q367
        cases e367
        replace hx367_0 := (HB.out.cell (World.block_lt_of_cell? w _ hx367_0)).trans hx367_0
        replace hx367_1 := (HB.out.cell (World.block_lt_of_cell? w _ hx367_1)).trans hx367_1
        replace hx367_2 := (HB.out.cell (World.block_lt_of_cell? w _ hx367_2)).trans hx367_2
        replace hx367_3 := (HB.out.cell (World.block_lt_of_cell? w _ hx367_3)).trans hx367_3
        replace hx367_4 := (HB.out.cell (World.block_lt_of_cell? w _ hx367_4)).trans hx367_4
        replace p367 := eq_true p367
        replace q367 := eq_true q367
        go_wp2_with (first | ((with_reducible refine gate_dst (N := 5) rfl ?_); refine boxE (N := 5) #[.int .i64 0, .int .i64 0, .int .i64 0, .int .i64 0, .bool false] 50 ?_; intro gb368 hg w21 hbox hb; have BK368 := Aside0.mk (hbox); have GW368 := gS HB hg; have GE368 := gS HB hg; have NB365_368 := nL BK365 hg; have NB368_365 := nG BK365 hg; replace BK365 := bB BK365 hb; replace HB := Aside0.mk (below_step (pB HB) hb); clear hb hbox hg; have hnb22 := NB368_365.out; have hnc22 := NB365_368.out; obtain ⟨hcz23_0, hcz23_1, hcz23_2, hcz23_3, hcz23_4⟩ := cells5 BK368; obtain ⟨hfz23_0, hfz23_1, hfz23_2, hfz23_3, hfz23_4⟩ := frz5 BK368))
        repeat (go_quiet (first | ((with_reducible refine gate_dst (N := 5) rfl ?_); refine boxE (N := 5) #[.int .i64 0, .int .i64 0, .int .i64 0, .int .i64 0, .bool false] 50 ?_; intro gb368 hg w21 hbox hb; have BK368 := Aside0.mk (hbox); have GW368 := gS HB hg; have GE368 := gS HB hg; have NB365_368 := nL BK365 hg; have NB368_365 := nG BK365 hg; replace BK365 := bB BK365 hb; replace HB := Aside0.mk (below_step (pB HB) hb); clear hb hbox hg; have hnb22 := NB368_365.out; have hnc22 := NB365_368.out; obtain ⟨hcz23_0, hcz23_1, hcz23_2, hcz23_3, hcz23_4⟩ := cells5 BK368; obtain ⟨hfz23_0, hfz23_1, hfz23_2, hfz23_3, hfz23_4⟩ := frz5 BK368)); try go_wp2_with (first | ((with_reducible refine gate_dst (N := 5) rfl ?_); refine boxE (N := 5) #[.int .i64 0, .int .i64 0, .int .i64 0, .int .i64 0, .bool false] 50 ?_; intro gb368 hg w21 hbox hb; have BK368 := Aside0.mk (hbox); have GW368 := gS HB hg; have GE368 := gS HB hg; have NB365_368 := nL BK365 hg; have NB368_365 := nG BK365 hg; replace BK365 := bB BK365 hb; replace HB := Aside0.mk (below_step (pB HB) hb); clear hb hbox hg; have hnb22 := NB368_365.out; have hnc22 := NB365_368.out; obtain ⟨hcz23_0, hcz23_1, hcz23_2, hcz23_3, hcz23_4⟩ := cells5 BK368; obtain ⟨hfz23_0, hfz23_1, hfz23_2, hfz23_3, hfz23_4⟩ := frz5 BK368)))
        go_loopg [6] k1 (fun kq v6 w' => ∃ (x6_2 : Int), v6 = .int .i64 x6_2 ∧ Aside0 (insolvencyref33_CheckDocket.l1 kq x4_1 x6_2 a0_0 a0_1 a0_2 l0_3 l0_4 ((rd_T50 l0_4 x4_1).f0) ((rd_T50 l0_4 x4_1).f1) ((rd_T50 l0_4 x4_1).f2) ((rd_T50 l0_4 x4_1).f3) ((rd_T50 l0_4 x4_1).f4) = some r) ∧ Aside0 (kq ≤ k1) ∧ Aside0 (w'.heap[gb365]? = some (.cells #[.int .i64 a0_0, .int .i64 a0_1, .int .i64 a0_2, (.slice A0_3 l0_3.length c0_3), (.slice (some ad367) l0_4.length c0_4)] 30 (0, 0))) ∧ Aside0 (w'.heap[gb368]? = some (.cells #[.int .i64 ((rd_T50 l0_4 x4_1).f0), .int .i64 ((rd_T50 l0_4 x4_1).f1), .int .i64 ((rd_T50 l0_4 x4_1).f2), .int .i64 ((rd_T50 l0_4 x4_1).f3), .bool ((rd_T50 l0_4 x4_1).f4)] 50 (0, 0))) ∧ Aside0 (Below w.heap.size w w'))
        case atStart => exact ⟨(0), (by first | rfl | (simp; done) | (simp [*]; done)), H', ⟨Nat.le_refl _⟩, ⟨by (with_reducible repeat (first | refine blk_drewN ?_ _ | refine blk_drew ?_ | refine blk_alloc ?_ _)); refine blk_far ?_ NB365_368.out _; (with_reducible repeat (first | refine blk_drewN ?_ _ | refine blk_drew ?_ | refine blk_alloc ?_ _)); refine blk_far ?_ NB365_368.out _; (with_reducible repeat (first | refine blk_drewN ?_ _ | refine blk_drew ?_ | refine blk_alloc ?_ _)); refine blk_far ?_ NB365_368.out _; (with_reducible repeat (first | refine blk_drewN ?_ _ | refine blk_drew ?_ | refine blk_alloc ?_ _)); refine blk_far ?_ NB365_368.out _; (with_reducible repeat (first | refine blk_drewN ?_ _ | refine blk_drew ?_ | refine blk_alloc ?_ _)); refine blk_far ?_ NB365_368.out _; (with_reducible repeat (first | refine blk_drewN ?_ _ | refine blk_drew ?_ | refine blk_alloc ?_ _)); exact BK365.out⟩, ⟨by (with_reducible repeat (first | refine blk_drewN ?_ _ | refine blk_drew ?_ | refine blk_alloc ?_ _)); refine blk_put (cs := #[.int .i64 ((rd_T50 l0_4 x4_1).f0), .int .i64 ((rd_T50 l0_4 x4_1).f1), .int .i64 ((rd_T50 l0_4 x4_1).f2), .int .i64 ((rd_T50 l0_4 x4_1).f3), .bool false]) ?_ 4 _ rfl; (with_reducible repeat (first | refine blk_drewN ?_ _ | refine blk_drew ?_ | refine blk_alloc ?_ _)); refine blk_put (cs := #[.int .i64 ((rd_T50 l0_4 x4_1).f0), .int .i64 ((rd_T50 l0_4 x4_1).f1), .int .i64 ((rd_T50 l0_4 x4_1).f2), .int .i64 0, .bool false]) ?_ 3 _ rfl; (with_reducible repeat (first | refine blk_drewN ?_ _ | refine blk_drew ?_ | refine blk_alloc ?_ _)); refine blk_put (cs := #[.int .i64 ((rd_T50 l0_4 x4_1).f0), .int .i64 ((rd_T50 l0_4 x4_1).f1), .int .i64 0, .int .i64 0, .bool false]) ?_ 2 _ rfl; (with_reducible repeat (first | refine blk_drewN ?_ _ | refine blk_drew ?_ | refine blk_alloc ?_ _)); refine blk_put (cs := #[.int .i64 ((rd_T50 l0_4 x4_1).f0), .int .i64 0, .int .i64 0, .int .i64 0, .bool false]) ?_ 1 _ rfl; (with_reducible repeat (first | refine blk_drewN ?_ _ | refine blk_drew ?_ | refine blk_alloc ?_ _)); refine blk_put (cs := #[.int .i64 0, .int .i64 0, .int .i64 0, .int .i64 0, .bool false]) ?_ 0 _ rfl; (with_reducible repeat (first | refine blk_drewN ?_ _ | refine blk_drew ?_ | refine blk_alloc ?_ _)); exact BK368.out⟩, ⟨pB HB⟩⟩
        case round =>
         clear H'
         try clear c1
         try clear c2
         try clear p2
         try clear c3
         try clear c3b0
         try clear c3b1
         try clear p3
         try clear q3
         try clear hx3
         try clear c4
         try clear c4b0
         try clear c4b1
         try clear c13
         try clear c13b0
         try clear c14
         try clear c14b0
         try clear c15
         try clear c15b0
         try clear c18
         try clear c22
         try clear hx367_0
         try clear hx367_1
         try clear hx367_2
         try clear hx367_3
         try clear hx367_4
         try clear p2
         try clear p367
         try clear q367
         obtain ⟨x6_2, rfl, HA, HK2, BK365, BK368, HB⟩ := hrel
         cases gk with
         | zero => exact absurd HA.out (by simp [insolvencyref33_CheckDocket.l1])
         | succ k2 =>
          have H := HA.out
          clear HA
          simp only [insolvencyref33_CheckDocket.l1] at H
          by_cases c24 : x6_2 < x4_1
          ·rw [if_pos c24] at H
           have c24b0 : decide (x6_2 < x4_1) = true := decide_eq_true c24
           clear c24
           by_cases c25 : 0 ≤ x6_2
           ·rw [if_pos c25] at H
            have c25b0 : decide (0 ≤ x6_2) = true := decide_eq_true c25
            clear c25
            by_cases c26 : x6_2 < (l0_4.length : Int)
            ·rw [if_pos c26] at H
             have c26b0 : decide (x6_2 < (l0_4.length : Int)) = true := decide_eq_true c26
             clear c26
             by_cases c27 : ((rd_T50 l0_4 x6_2).f0) = ((rd_T50 l0_4 x4_1).f0)
             ·rw [if_pos c27] at H
              have c27b0 : (((rd_T50 l0_4 x6_2).f0) == ((rd_T50 l0_4 x4_1).f0)) = true := beq_iff_eq.mpr c27
              have c27b1 : (((rd_T50 l0_4 x6_2).f0) != ((rd_T50 l0_4 x4_1).f0)) = false := bne_eq_false_iff_eq.mpr c27
              clear c27
              obtain rfl := Option.some.inj H
              have hnb28 := NB365_368.out
              have hnc28 := NB368_365.out
              obtain ⟨hcz29_0, hcz29_1, hcz29_2, hcz29_3, hcz29_4⟩ := cells5 BK365
              obtain ⟨hfz29_0, hfz29_1, hfz29_2, hfz29_3, hfz29_4⟩ := frz5 BK365
              have p369 : 0 ≤ (x6_2 : Int) := of_decide_eq_true (by first | (with_reducible assumption) | assumption)
              have q369 : x6_2 < (l0_4.length : Int) := of_decide_eq_true (by first | (with_reducible assumption) | assumption)
              obtain ⟨ad369, e369, hx369_0, hx369_1, hx369_2, hx369_3, hx369_4⟩ := at_T50 HR0_4.out x6_2 p369 q369
              obtain rfl : ad367 = ad369 := (by injection e369)
              replace hx369_0 := (HB.out.cell (World.block_lt_of_cell? w _ hx369_0)).trans hx369_0
              replace hx369_1 := (HB.out.cell (World.block_lt_of_cell? w _ hx369_1)).trans hx369_1
              replace hx369_2 := (HB.out.cell (World.block_lt_of_cell? w _ hx369_2)).trans hx369_2
              replace hx369_3 := (HB.out.cell (World.block_lt_of_cell? w _ hx369_3)).trans hx369_3
              replace hx369_4 := (HB.out.cell (World.block_lt_of_cell? w _ hx369_4)).trans hx369_4
              replace p369 := eq_true p369
              replace q369 := eq_true q369
              obtain ⟨hcz30_0, hcz30_1, hcz30_2, hcz30_3, hcz30_4⟩ := cells5 BK368
              obtain ⟨hfz30_0, hfz30_1, hfz30_2, hfz30_3, hfz30_4⟩ := frz5 BK368
              go_wp2
              repeat (go_quiet (fail); try go_wp2)
              go_ret
              exact ⟨by first | rfl | (simp [errW_none, errW_some] <;> rfl) | (simp [*, errW_none, errW_some] <;> rfl), pB HB⟩
             ·rw [if_neg c27] at H
              have c27b0 : (((rd_T50 l0_4 x6_2).f0) == ((rd_T50 l0_4 x4_1).f0)) = false := beq_eq_false_iff_ne.mpr c27
              have c27b1 : (((rd_T50 l0_4 x6_2).f0) != ((rd_T50 l0_4 x4_1).f0)) = true := bne_iff_ne.mpr c27
              have H' := Aside0.mk H
              clear H
              have hnb31 := NB365_368.out
              have hnc31 := NB368_365.out
              obtain ⟨hcz32_0, hcz32_1, hcz32_2, hcz32_3, hcz32_4⟩ := cells5 BK365
              obtain ⟨hfz32_0, hfz32_1, hfz32_2, hfz32_3, hfz32_4⟩ := frz5 BK365
              have p369 : 0 ≤ (x6_2 : Int) := of_decide_eq_true (by first | (with_reducible assumption) | assumption)
              have q369 : x6_2 < (l0_4.length : Int) := of_decide_eq_true (by first | (with_reducible assumption) | assumption)
              obtain ⟨ad369, e369, hx369_0, hx369_1, hx369_2, hx369_3, hx369_4⟩ := at_T50 HR0_4.out x6_2 p369 q369
              obtain rfl : ad367 = ad369 := (by injection e369)
              replace hx369_0 := (HB.out.cell (World.block_lt_of_cell? w _ hx369_0)).trans hx369_0
              replace hx369_1 := (HB.out.cell (World.block_lt_of_cell? w _ hx369_1)).trans hx369_1
              replace hx369_2 := (HB.out.cell (World.block_lt_of_cell? w _ hx369_2)).trans hx369_2
              replace hx369_3 := (HB.out.cell (World.block_lt_of_cell? w _ hx369_3)).trans hx369_3
              replace hx369_4 := (HB.out.cell (World.block_lt_of_cell? w _ hx369_4)).trans hx369_4
              replace p369 := eq_true p369
              replace q369 := eq_true q369
              obtain ⟨hcz33_0, hcz33_1, hcz33_2, hcz33_3, hcz33_4⟩ := cells5 BK368
              obtain ⟨hfz33_0, hfz33_1, hfz33_2, hfz33_3, hfz33_4⟩ := frz5 BK368
              go_wp2
              repeat (go_quiet (fail); try go_wp2)
              go_roundg k2
              case measure => have := HK1.out; have := HK2.out; omega
              case rel => exact ⟨(wrap64 (x6_2 + 1)), (by first | rfl | (simp; done) | (simp [*]; done)), H', ⟨by have := HK1.out; have := HK2.out; omega⟩, ⟨by (with_reducible repeat (first | refine blk_drewN ?_ _ | refine blk_drew ?_ | refine blk_alloc ?_ _)); exact BK365.out⟩, ⟨by (with_reducible repeat (first | refine blk_drewN ?_ _ | refine blk_drew ?_ | refine blk_alloc ?_ _)); exact BK368.out⟩, ⟨pB HB⟩⟩
            ·rw [if_neg c26] at H
             exact absurd H (by simp)
           ·rw [if_neg c25] at H
            exact absurd H (by simp)
          ·rw [if_neg c24] at H
           have c24b0 : decide (x6_2 < x4_1) = false := decide_eq_false c24
           clear c24
           replace H := Option.bind_eq_some_iff.mp H
           obtain ⟨t370, A340, H⟩ := H
           replace H : (if t370 = true then (some 1) else (insolvencyref33_CheckDocket.l0 k2 (wrap64 (x4_1 + 1)) a0_0 a0_1 a0_2 l0_3 l0_4)) = some r := H
           have A34 := Aside0.mk A340
           clear A340
           by_cases c35 : t370 = true
           ·subst c35
            have H1 : (some 1) = some r := by rw [if_pos rfl] at H; exact H
            clear H
            have H := H1
            clear H1
            obtain rfl := Option.some.inj H
            have hnb36 := NB365_368.out
            have hnc36 := NB368_365.out
            obtain ⟨hcz37_0, hcz37_1, hcz37_2, hcz37_3, hcz37_4⟩ := cells5 BK365
            obtain ⟨hfz37_0, hfz37_1, hfz37_2, hfz37_3, hfz37_4⟩ := frz5 BK365
            obtain ⟨hcz38_0, hcz38_1, hcz38_2, hcz38_3, hcz38_4⟩ := cells5 BK368
            obtain ⟨hfz38_0, hfz38_1, hfz38_2, hfz38_3, hfz38_4⟩ := frz5 BK368
            go_wp2_with (first | (go_at_call 41; (with_reducible refine (insolvencyref33_badMatter.calls k2 a0_0 a0_1 a0_2 _ _ l0_3 _ _ l0_4 ((rd_T50 l0_4 x4_1).f0) ((rd_T50 l0_4 x4_1).f1) ((rd_T50 l0_4 x4_1).f2) ((rd_T50 l0_4 x4_1).f3) ((rd_T50 l0_4 x4_1).f4) true _ ?side1 ?side2 ?side3 ?side4 A34.out).mono ?_); (case side1 => exact cB HR0_3 HB); (case side2 => exact HC0_3.out); (case side3 => exact cB HR0_4 HB); (case side4 => exact HC0_4.out); rintro e w39 ⟨rfl, hb⟩; replace BK365 := bB BK365 hb; replace BK368 := bB BK368 hb; replace HB := Aside0.mk (below_step (pB HB) hb); (try clear hb)))
            repeat (go_quiet (first | (go_at_call 41; (with_reducible refine (insolvencyref33_badMatter.calls k2 a0_0 a0_1 a0_2 _ _ l0_3 _ _ l0_4 ((rd_T50 l0_4 x4_1).f0) ((rd_T50 l0_4 x4_1).f1) ((rd_T50 l0_4 x4_1).f2) ((rd_T50 l0_4 x4_1).f3) ((rd_T50 l0_4 x4_1).f4) true _ ?side1 ?side2 ?side3 ?side4 A34.out).mono ?_); (case side1 => exact cB HR0_3 HB); (case side2 => exact HC0_3.out); (case side3 => exact cB HR0_4 HB); (case side4 => exact HC0_4.out); rintro e w39 ⟨rfl, hb⟩; replace BK365 := bB BK365 hb; replace BK368 := bB BK368 hb; replace HB := Aside0.mk (below_step (pB HB) hb); (try clear hb); (try clear hb2); (try clear hk); (try clear hi))); try go_wp2_with (first | (go_at_call 41; (with_reducible refine (insolvencyref33_badMatter.calls k2 a0_0 a0_1 a0_2 _ _ l0_3 _ _ l0_4 ((rd_T50 l0_4 x4_1).f0) ((rd_T50 l0_4 x4_1).f1) ((rd_T50 l0_4 x4_1).f2) ((rd_T50 l0_4 x4_1).f3) ((rd_T50 l0_4 x4_1).f4) true _ ?side1 ?side2 ?side3 ?side4 A34.out).mono ?_); (case side1 => exact cB HR0_3 HB); (case side2 => exact HC0_3.out); (case side3 => exact cB HR0_4 HB); (case side4 => exact HC0_4.out); rintro e w39 ⟨rfl, hb⟩; replace BK365 := bB BK365 hb; replace BK368 := bB BK368 hb; replace HB := Aside0.mk (below_step (pB HB) hb); (try clear hb); (try clear hb2); (try clear hk); (try clear hi))))
            go_ret
            exact ⟨by first | rfl | (simp [errW_none, errW_some] <;> rfl) | (simp [*, errW_none, errW_some] <;> rfl), pB HB⟩
           ·replace c35 := Bool.eq_false_iff.mpr c35
            subst c35
            have H1 : (insolvencyref33_CheckDocket.l0 k2 (wrap64 (x4_1 + 1)) a0_0 a0_1 a0_2 l0_3 l0_4) = some r := by rw [if_neg (show ¬ (false = true) by decide)] at H; exact H
            clear H
            have H := H1
            clear H1
            have H' := Aside0.mk H
            clear H
            have hnb40 := NB365_368.out
            have hnc40 := NB368_365.out
            obtain ⟨hcz41_0, hcz41_1, hcz41_2, hcz41_3, hcz41_4⟩ := cells5 BK365
            obtain ⟨hfz41_0, hfz41_1, hfz41_2, hfz41_3, hfz41_4⟩ := frz5 BK365
            obtain ⟨hcz42_0, hcz42_1, hcz42_2, hcz42_3, hcz42_4⟩ := cells5 BK368
            obtain ⟨hfz42_0, hfz42_1, hfz42_2, hfz42_3, hfz42_4⟩ := frz5 BK368
            go_wp2_with (first | (go_at_call 41; (with_reducible refine (insolvencyref33_badMatter.calls k2 a0_0 a0_1 a0_2 _ _ l0_3 _ _ l0_4 ((rd_T50 l0_4 x4_1).f0) ((rd_T50 l0_4 x4_1).f1) ((rd_T50 l0_4 x4_1).f2) ((rd_T50 l0_4 x4_1).f3) ((rd_T50 l0_4 x4_1).f4) false _ ?side1 ?side2 ?side3 ?side4 A34.out).mono ?_); (case side1 => exact cB HR0_3 HB); (case side2 => exact HC0_3.out); (case side3 => exact cB HR0_4 HB); (case side4 => exact HC0_4.out); rintro e w43 ⟨rfl, hb⟩; replace BK365 := bB BK365 hb; replace BK368 := bB BK368 hb; replace HB := Aside0.mk (below_step (pB HB) hb); (try clear hb)))
            repeat (go_quiet (first | (go_at_call 41; (with_reducible refine (insolvencyref33_badMatter.calls k2 a0_0 a0_1 a0_2 _ _ l0_3 _ _ l0_4 ((rd_T50 l0_4 x4_1).f0) ((rd_T50 l0_4 x4_1).f1) ((rd_T50 l0_4 x4_1).f2) ((rd_T50 l0_4 x4_1).f3) ((rd_T50 l0_4 x4_1).f4) false _ ?side1 ?side2 ?side3 ?side4 A34.out).mono ?_); (case side1 => exact cB HR0_3 HB); (case side2 => exact HC0_3.out); (case side3 => exact cB HR0_4 HB); (case side4 => exact HC0_4.out); rintro e w43 ⟨rfl, hb⟩; replace BK365 := bB BK365 hb; replace BK368 := bB BK368 hb; replace HB := Aside0.mk (below_step (pB HB) hb); (try clear hb); (try clear hb2); (try clear hk); (try clear hi))); try go_wp2_with (first | (go_at_call 41; (with_reducible refine (insolvencyref33_badMatter.calls k2 a0_0 a0_1 a0_2 _ _ l0_3 _ _ l0_4 ((rd_T50 l0_4 x4_1).f0) ((rd_T50 l0_4 x4_1).f1) ((rd_T50 l0_4 x4_1).f2) ((rd_T50 l0_4 x4_1).f3) ((rd_T50 l0_4 x4_1).f4) false _ ?side1 ?side2 ?side3 ?side4 A34.out).mono ?_); (case side1 => exact cB HR0_3 HB); (case side2 => exact HC0_3.out); (case side3 => exact cB HR0_4 HB); (case side4 => exact HC0_4.out); rintro e w43 ⟨rfl, hb⟩; replace BK365 := bB BK365 hb; replace BK368 := bB BK368 hb; replace HB := Aside0.mk (below_step (pB HB) hb); (try clear hb); (try clear hb2); (try clear hk); (try clear hi))))
            go_roundg k2
            case measure => have := HK1.out; have := HK2.out; omega
            case rel => exact ⟨(wrap64 (x4_1 + 1)), (by first | rfl | (simp; done) | (simp [*]; done)), H', ⟨by have := HK1.out; have := HK2.out; omega⟩, ⟨by (with_reducible repeat (first | refine blk_drewN ?_ _ | refine blk_drew ?_ | refine blk_alloc ?_ _)); exact BK365.out⟩, ⟨pB HB⟩⟩
      ·rw [if_neg c14] at H
       exact absurd H (by simp)
     ·rw [if_neg c13] at H
      have c13b0 : decide (x4_1 < (l0_4.length : Int)) = false := decide_eq_false c13
      clear c13
      obtain rfl := Option.some.inj H
      obtain ⟨hcz44_0, hcz44_1, hcz44_2, hcz44_3, hcz44_4⟩ := cells5 BK365
      obtain ⟨hfz44_0, hfz44_1, hfz44_2, hfz44_3, hfz44_4⟩ := frz5 BK365
      go_wp2
      repeat (go_quiet (fail); try go_wp2)
      go_ret
      exact ⟨by first | rfl | (simp [errW_none, errW_some] <;> rfl) | (simp [*, errW_none, errW_some] <;> rfl), pB HB⟩
 ·rw [if_neg c3] at H
  have c3b0 : (t366 == 0) = false := beq_eq_false_iff_ne.mpr c3
  have c3b1 : (t366 != 0) = true := bne_iff_ne.mpr c3
  obtain rfl := Option.some.inj H
  go_enter Try.func24, Try.ntmps24
  go_wp2_with (first | ((with_reducible refine gate_dst (N := 1) rfl ?_); refine boxE (N := 1) #[.int .i64 a0_0, .int .i64 a0_1, .int .i64 a0_2, .slice A0_3 l0_3.length c0_3, .slice A0_4 l0_4.length c0_4] 30 ?_; intro gb365 hg w45 hbox hb; have BK365 := Aside0.mk (hbox); have GW365 := gS HB hg; have GE365 := gS HB hg; replace HB := Aside0.mk (below_step (pB HB) hb); clear hb hbox hg; obtain ⟨hcz46_0, hcz46_1, hcz46_2, hcz46_3, hcz46_4⟩ := cells5 BK365; obtain ⟨hfz46_0, hfz46_1, hfz46_2, hfz46_3, hfz46_4⟩ := frz5 BK365) | (go_at_call 40; (with_reducible refine (insolvencyref33_checkTerms.calls a0_0 a0_1 a0_2 _ _ l0_3 t366 _ ?side1 ?side2 A2.out).mono ?_); (case side1 => exact cB HR0_3 HB); (case side2 => exact HC0_3.out); rintro e w47 ⟨rfl, hb⟩; replace BK365 := bB BK365 hb; replace HB := Aside0.mk (below_step (pB HB) hb); (try clear hb)))
  repeat (go_quiet (first | ((with_reducible refine gate_dst (N := 1) rfl ?_); refine boxE (N := 1) #[.int .i64 a0_0, .int .i64 a0_1, .int .i64 a0_2, .slice A0_3 l0_3.length c0_3, .slice A0_4 l0_4.length c0_4] 30 ?_; intro gb365 hg w45 hbox hb; have BK365 := Aside0.mk (hbox); have GW365 := gS HB hg; have GE365 := gS HB hg; replace HB := Aside0.mk (below_step (pB HB) hb); clear hb hbox hg; obtain ⟨hcz46_0, hcz46_1, hcz46_2, hcz46_3, hcz46_4⟩ := cells5 BK365; obtain ⟨hfz46_0, hfz46_1, hfz46_2, hfz46_3, hfz46_4⟩ := frz5 BK365) | (go_at_call 40; (with_reducible refine (insolvencyref33_checkTerms.calls a0_0 a0_1 a0_2 _ _ l0_3 t366 _ ?side1 ?side2 A2.out).mono ?_); (case side1 => exact cB HR0_3 HB); (case side2 => exact HC0_3.out); rintro e w47 ⟨rfl, hb⟩; replace BK365 := bB BK365 hb; replace HB := Aside0.mk (below_step (pB HB) hb); (try clear hb); (try clear hb2); (try clear hk); (try clear hi))); try go_wp2_with (first | ((with_reducible refine gate_dst (N := 1) rfl ?_); refine boxE (N := 1) #[.int .i64 a0_0, .int .i64 a0_1, .int .i64 a0_2, .slice A0_3 l0_3.length c0_3, .slice A0_4 l0_4.length c0_4] 30 ?_; intro gb365 hg w45 hbox hb; have BK365 := Aside0.mk (hbox); have GW365 := gS HB hg; have GE365 := gS HB hg; replace HB := Aside0.mk (below_step (pB HB) hb); clear hb hbox hg; obtain ⟨hcz46_0, hcz46_1, hcz46_2, hcz46_3, hcz46_4⟩ := cells5 BK365; obtain ⟨hfz46_0, hfz46_1, hfz46_2, hfz46_3, hfz46_4⟩ := frz5 BK365) | (go_at_call 40; (with_reducible refine (insolvencyref33_checkTerms.calls a0_0 a0_1 a0_2 _ _ l0_3 t366 _ ?side1 ?side2 A2.out).mono ?_); (case side1 => exact cB HR0_3 HB); (case side2 => exact HC0_3.out); rintro e w47 ⟨rfl, hb⟩; replace BK365 := bB BK365 hb; replace HB := Aside0.mk (below_step (pB HB) hb); (try clear hb); (try clear hb2); (try clear hk); (try clear hi))))
  go_ret
  exact ⟨by first | rfl | (simp [errW_none, errW_some] <;> rfl) | (simp [*, errW_none, errW_some] <;> rfl), pB HB⟩
end Go.Proofs.Ytpfiecjacpbhkaa.D

namespace Go.Proofs.Ytpfiecjacpbhkaa.D
open Go.RowKit Go.Proofs.YtpfiecjacpbhkaaW.PrintWords Go.Proofs.YtpfiecjacpbhkaaW.PrintLast Go.Proofs.YtpfiecjacpbhkaaW.PrintMore
attribute [local go_sem] max2_int min2_int max_two min_two max_three min_three max_four min_four
set_option linter.unusedVariables false
set_option linter.unusedSimpArgs false
def insolvencyref33_copied.f (a0_0 : Int) (a0_1 : Int) (a0_2 : Int) (l0_3 : List Int) (l0_4 : List (S50)) : Option (Int × Int × Int × List Int × (List (S50))) := (some (([] : List Int) : List Int)).bind fun y435 => (if y435.length + l0_3.length < 17592186044416 then ((some (([] : List (S50)) : List (S50))).bind fun y441 => (if y441.length + l0_4.length < 3518437208883 then (some (a0_0, a0_1, a0_2, (y435 ++ l0_3), (y441 ++ l0_4))) else (none))) else (none))
def insolvencyref33_copied.T1 : Bool × List (List Nat × List Nat) := (true, [([], []), ([0], [0]), ([], []), ([2], [2]), ([3], [3]), ([], []), ([5], [5]), ([6], [6]), ([], []), ([], []), ([9], [9]), ([10], [10]), ([8, 11], [8, 11]), ([4, 7, 12], [4, 7, 12]), ([], []), ([], []), ([15], [15]), ([14, 16, 12], [14, 16]), ([1, 13, 17], [1, 13, 17]), ([18, 17, 0, 1, 2, 3, 4, 5, 6, 7, 8, 9, 10, 11, 12, 13, 14, 15, 16, 17, 18], [18])])
def insolvencyref33_copied.B1 : List Nat := [0, 1, 0, 4, 12, 0, 32, 96, 0, 0, 512, 1536, 3840, 8188, 0, 0, 32768, 122624, 262143, 524287]
theorem insolvencyref33_copied.tab1 : rtab .any (opsOf Try.f60 1) = insolvencyref33_copied.T1 := by kernel_rfl
theorem insolvencyref33_copied.bits1 : waitsOk insolvencyref33_copied.T1.2 insolvencyref33_copied.B1 = true := by kernel_rfl
set_option maxHeartbeats 8000000 in
set_option maxRecDepth 100000 in
theorem insolvencyref33_copied.calls (a0_0 : Int) (a0_1 : Int) (a0_2 : Int) (A0_3 : Option Addr) (c0_3 : Nat) (l0_3 : List Int) (A0_4 : Option Addr) (c0_4 : Nat) (l0_4 : List (S50)) (r1 : Int) (r2 : Int) (r3 : Int) (r4 : List Int) (r5 : List (S50)) (w : World) (hr0_3 : Kd.C (Kd.int .i64) w A0_3 l0_3.length l0_3) (hc0_3 : l0_3.length ≤ c0_3) (hr0_4 : Kd.C k50 w A0_4 l0_4.length l0_4) (hc0_4 : l0_4.length ≤ c0_4) (h : insolvencyref33_copied.f a0_0 a0_1 a0_2 l0_3 l0_4 = some (r1, r2, r3, r4, r5)) :
  Calls Try.prog 60 #[.agg #[.int .i64 a0_0, .int .i64 a0_1, .int .i64 a0_2, .slice A0_3 l0_3.length c0_3, .slice A0_4 l0_4.length c0_4]] w fun e w' => ∃ v3_ v4_ : Value, e = .returned (.agg #[.int .i64 r1, .int .i64 r2, .int .i64 r3, v3_, v4_]) ∧ Kd.R (Kd.int .i64) 3 w' w.heap.size (fun _ => True) v3_ r4 ∧ Kd.R k50 50 w' w.heap.size (fun _ => True) v4_ r5 ∧ Below w.heap.size w w' := by
 have hu30 := Try.underlying30
 have hu27 := Try.underlying27
 have HR0_3 := Aside0.mk hr0_3
 have HC0_3 := Aside0.mk hc0_3
 clear hr0_3 hc0_3
 have HR0_4 := Aside0.mk hr0_4
 have HC0_4 := Aside0.mk hc0_4
 clear hr0_4 hc0_4
 have HB := Aside0.mk (Below.refl w.heap.size w)
 have H : ((some (([] : List Int) : List Int)).bind fun y435 => (if y435.length + l0_3.length < 17592186044416 then ((some (([] : List (S50)) : List (S50))).bind fun y441 => (if y441.length + l0_4.length < 3518437208883 then (some (a0_0, a0_1, a0_2, (y435 ++ l0_3), (y441 ++ l0_4))) else (none))) else (none))) = some (r1, r2, r3, r4, r5) := h
 clear h
 obtain ⟨y435, hy435⟩ : ∃ y_ : List Int, y_ = (([] : List Int)) := ⟨_, rfl⟩
 replace H : (if y435.length + l0_3.length < 17592186044416 then ((some (([] : List (S50)) : List (S50))).bind fun y441 => (if y441.length + l0_4.length < 3518437208883 then (some (a0_0, a0_1, a0_2, (y435 ++ l0_3), (y441 ++ l0_4))) else (none))) else (none)) = some (r1, r2, r3, r4, r5) := by first | (rw [hy435]; with_reducible exact H) | (have H2_ := (Option.bind_some _ _).symm.trans H; rw [hy435]; with_reducible exact H2_) | (have H2_ := (Option.bind_some _ _).symm.trans H; with_reducible exact H2_) | with_reducible exact H | (rw [hy435]; exact H) | exact H
 have Ny435 := Aside0.mk hy435
 clear hy435
 by_cases c2 : y435.length + l0_3.length < 17592186044416
 ·rw [if_pos c2] at H
  have LMc2 := Aside0.mk c2
  clear c2
  obtain ⟨y438, hy438⟩ : ∃ y_ : List Int, y_ = (y435 ++ l0_3) := ⟨_, rfl⟩
  replace H : ((some (([] : List (S50)) : List (S50))).bind fun y441 => (if y441.length + l0_4.length < 3518437208883 then (some (a0_0, a0_1, a0_2, y438, (y441 ++ l0_4))) else (none))) = some (r1, r2, r3, r4, r5) := by first | (rw [hy438]; with_reducible exact H) | (have H2_ := (Option.bind_some _ _).symm.trans H; rw [hy438]; with_reducible exact H2_) | (have H2_ := (Option.bind_some _ _).symm.trans H; with_reducible exact H2_) | with_reducible exact H | (rw [hy438]; exact H) | exact H
  have Ny438 := Aside0.mk hy438
  clear hy438
  obtain ⟨y441, hy441⟩ : ∃ y_ : List (S50), y_ = (([] : List (S50))) := ⟨_, rfl⟩
  replace H : (if y441.length + l0_4.length < 3518437208883 then (some (a0_0, a0_1, a0_2, y438, (y441 ++ l0_4))) else (none)) = some (r1, r2, r3, r4, r5) := by first | (rw [hy441]; with_reducible exact H) | (have H2_ := (Option.bind_some _ _).symm.trans H; rw [hy441]; with_reducible exact H2_) | (have H2_ := (Option.bind_some _ _).symm.trans H; with_reducible exact H2_) | with_reducible exact H | (rw [hy441]; exact H) | exact H
  have Ny441 := Aside0.mk hy441
  clear hy441
  by_cases c3 : y441.length + l0_4.length < 3518437208883
  ·rw [if_pos c3] at H
   have LMc3 := Aside0.mk c3
   clear c3
   obtain ⟨y444, hy444⟩ : ∃ y_ : List (S50), y_ = (y441 ++ l0_4) := ⟨_, rfl⟩
   replace H : (some (a0_0, a0_1, a0_2, y438, y444)) = some (r1, r2, r3, r4, r5) := by first | (rw [hy444]; with_reducible exact H) | (have H2_ := (Option.bind_some _ _).symm.trans H; rw [hy444]; with_reducible exact H2_) | (have H2_ := (Option.bind_some _ _).symm.trans H; with_reducible exact H2_) | with_reducible exact H | (rw [hy444]; exact H) | exact H
   have Ny444 := Aside0.mk hy444
   clear hy444
   simp only [Option.some.injEq, Prod.mk.injEq] at H
   obtain ⟨rfl, rfl, rfl, rfl, rfl⟩ := H
   go_enter Try.func60, Try.ntmps60
   try go_wp2_with (first | ((with_reducible refine gate_dst (N := 1) rfl ?_); refine boxE (N := 1) #[.int .i64 a0_0, .int .i64 a0_1, .int .i64 a0_2, .slice A0_3 l0_3.length c0_3, .slice A0_4 l0_4.length c0_4] 30 ?_; intro gb433 hg w4 hbox hb; have BK433 := Aside0.mk (hbox); have GW433 := gS HB hg; have GE433 := gS HB hg; replace HB := Aside0.mk (below_step (pB HB) hb); clear hb hbox hg) | ((with_reducible refine gate_dst (N := 2) rfl ?_); refine boxE (N := 2) #[.int .i64 0, .int .i64 0, .int .i64 0, .slice none 0 0, .slice none 0 0] 30 ?_; intro gb434 hg w5 hbox hb; have BK434 := Aside0.mk (hbox); have GW434 := gS HB hg; have GE434 := gS HB hg; have NB433_434 := nL BK433 hg; have NB434_433 := nG BK433 hg; replace BK433 := bB BK433 hb; replace HB := Aside0.mk (below_step (pB HB) hb); clear hb hbox hg))
   replace BK433 := Aside0.mk (blk_drew BK433.out)
   replace BK434 := Aside0.mk (blk_drew BK434.out)
   replace HB := Aside0.mk (below_drew1 HB.out)
   refine start_ (n := 20) (S := fun w' => w'.cell? ⟨gb433, 0, none⟩ = some (.int .i64 a0_0) ∧ w'.cell? ⟨gb433, 1, none⟩ = some (.int .i64 a0_1) ∧ w'.cell? ⟨gb433, 2, none⟩ = some (.int .i64 a0_2) ∧ w'.cell? ⟨gb433, 3, none⟩ = some (.slice A0_3 l0_3.length c0_3) ∧ w'.cell? ⟨gb433, 4, none⟩ = some (.slice A0_4 l0_4.length c0_4)) (ds := []) #[false, false, false, false, false, false, false, false, false, false, false, false, false, false, false, false, false, false, false, false] (by kernel_rfl) rfl rfl ⟨(blk_cell BK433.out 0).trans rfl, (blk_cell BK433.out 1).trans rfl, (blk_cell BK433.out 2).trans rfl, (blk_cell BK433.out 3).trans rfl, (blk_cell BK433.out 4).trans rfl⟩ (fun hHeld => ?_); refine with_tabW insolvencyref33_copied.tab1 insolvencyref33_copied.bits1 (fun HT_ HW_ => ?_)
   generalize w5.drew = w6 at BK433 BK434 HB hHeld ⊢
   refine pure_ (i := 0) (N := some 3) (v := ?_) (a' := ?_) #[true, false, false, false, false, false, false, false, false, false, false, false, false, false, false, false, false, false, false, false] rfl rfl (any_of HT_.out (by kernel_rfl)) (fun _ _ _ h => h) (Or.inl ⟨by rfl, ?_⟩) ?_ ?_
   rotate_left
   ·intro w'
    go_simp
    with_reducible rfl
   rotate_left
   ·simp only [Act.put, sT, sZ, sU, i64_w, i32_w]
    rfl
   refine pure_ (i := 2) (N := some 5) (v := ?_) (a' := ?_) #[true, false, true, false, false, false, false, false, false, false, false, false, false, false, false, false, false, false, false, false] rfl rfl (any_of HT_.out (by kernel_rfl)) (fun _ _ _ h => h) (Or.inl ⟨by rfl, ?_⟩) ?_ ?_
   rotate_left
   ·intro w'
    go_simp
    with_reducible rfl
   rotate_left
   ·simp only [Act.put, sT, sZ, sU, i64_w, i32_w]
    rfl
   refine pure_ (i := 3) (N := some 6) (v := ?_) (a' := ?_) #[true, false, true, true, false, false, false, false, false, false, false, false, false, false, false, false, false, false, false, false] rfl rfl (any_of HT_.out (by kernel_rfl)) (fun _ _ _ h => h) (Or.inl ⟨by rfl, ?_⟩) ?_ ?_
   rotate_left
   ·intro w'
    go_simp
    with_reducible rfl
   rotate_left
   ·simp only [Act.put, sT, sZ, sU, i64_w, i32_w]
    rfl
   refine pure_ (i := 5) (N := some 8) (v := ?_) (a' := ?_) #[true, false, true, true, false, true, false, false, false, false, false, false, false, false, false, false, false, false, false, false] rfl rfl (any_of HT_.out (by kernel_rfl)) (fun _ _ _ h => h) (Or.inl ⟨by rfl, ?_⟩) ?_ ?_
   rotate_left
   ·intro w'
    go_simp
    with_reducible rfl
   rotate_left
   ·simp only [Act.put, sT, sZ, sU, i64_w, i32_w]
    rfl
   refine pure_ (i := 6) (N := some 9) (v := ?_) (a' := ?_) #[true, false, true, true, false, true, true, false, false, false, false, false, false, false, false, false, false, false, false, false] rfl rfl (any_of HT_.out (by kernel_rfl)) (fun _ _ _ h => h) (Or.inl ⟨by rfl, ?_⟩) ?_ ?_
   rotate_left
   ·intro w'
    go_simp
    with_reducible rfl
   rotate_left
   ·simp only [Act.put, sT, sZ, sU, i64_w, i32_w]
    rfl
   refine pure_ (i := 9) (N := some 12) (v := ?_) (a' := ?_) #[true, false, true, true, false, true, true, false, false, true, false, false, false, false, false, false, false, false, false, false] rfl rfl (any_of HT_.out (by kernel_rfl)) (fun _ _ _ h => h) (Or.inl ⟨by rfl, ?_⟩) ?_ ?_
   rotate_left
   ·intro w'
    go_simp
    with_reducible rfl
   rotate_left
   ·simp only [Act.put, sT, sZ, sU, i64_w, i32_w]
    rfl
   refine pure_ (i := 10) (N := some 13) (v := ?_) (a' := ?_) #[true, false, true, true, false, true, true, false, false, true, true, false, false, false, false, false, false, false, false, false] rfl rfl (any_of HT_.out (by kernel_rfl)) (fun _ _ _ h => h) (Or.inl ⟨by rfl, ?_⟩) ?_ ?_
   rotate_left
   ·intro w'
    go_simp
    with_reducible rfl
   rotate_left
   ·simp only [Act.put, sT, sZ, sU, i64_w, i32_w]
    rfl
   refine pure_ (i := 15) (N := some 18) (v := ?_) (a' := ?_) #[true, false, true, true, false, true, true, false, false, true, true, false, false, false, false, true, false, false, false, false] rfl rfl (any_of HT_.out (by kernel_rfl)) (fun _ _ _ h => h) (Or.inl ⟨by rfl, ?_⟩) ?_ ?_
   rotate_left
   ·intro w'
    go_simp
    with_reducible rfl
   rotate_left
   ·simp only [Act.put, sT, sZ, sU, i64_w, i32_w]
    rfl
   refine take_ (i := 1) (N := some 4) (v := ?_) (a' := ?_) #[true, true, true, true, false, true, true, false, false, true, true, false, false, false, false, true, false, false, false, false] rfl rfl (take_ofW HT_.out HW_.out (by kernel_rfl)) (fun _ _ _ h => h) (Or.inl ⟨by rfl, ?_⟩) hHeld ?_ ?_
   rotate_left
   ·rintro w' ⟨s0, s1, s2, s3, s4⟩
    go_simp
    with_reducible rfl
   rotate_left
   ·simp only [Act.put, sT, sZ, sU, i64_w, i32_w]
    rfl
   refine take_ (i := 4) (N := some 7) (v := ?_) (a' := ?_) #[true, true, true, true, true, true, true, false, false, true, true, false, false, false, false, true, false, false, false, false] rfl rfl (take_ofW HT_.out HW_.out (by kernel_rfl)) (fun _ _ _ h => h) (Or.inl ⟨by rfl, ?_⟩) hHeld ?_ ?_
   rotate_left
   ·rintro w' ⟨s0, s1, s2, s3, s4⟩
    go_simp
    with_reducible rfl
   rotate_left
   ·simp only [Act.put, sT, sZ, sU, i64_w, i32_w]
    rfl
   refine take_ (i := 7) (N := some 10) (v := ?_) (a' := ?_) #[true, true, true, true, true, true, true, true, false, true, true, false, false, false, false, true, false, false, false, false] rfl rfl (take_ofW HT_.out HW_.out (by kernel_rfl)) (fun _ _ _ h => h) (Or.inl ⟨by rfl, ?_⟩) hHeld ?_ ?_
   rotate_left
   ·rintro w' ⟨s0, s1, s2, s3, s4⟩
    go_simp
    with_reducible rfl
   rotate_left
   ·simp only [Act.put, sT, sZ, sU, i64_w, i32_w]
    rfl
   refine take_ (i := 11) (N := some 14) (v := ?_) (a' := ?_) #[true, true, true, true, true, true, true, true, false, true, true, true, false, false, false, true, false, false, false, false] rfl rfl (take_ofW HT_.out HW_.out (by kernel_rfl)) (fun _ _ _ h => h) (Or.inl ⟨by rfl, ?_⟩) hHeld ?_ ?_
   rotate_left
   ·rintro w' ⟨s0, s1, s2, s3, s4⟩
    go_simp
    with_reducible rfl
   rotate_left
   ·simp only [Act.put, sT, sZ, sU, i64_w, i32_w]
    rfl
   refine take_ (i := 16) (N := some 19) (v := ?_) (a' := ?_) #[true, true, true, true, true, true, true, true, false, true, true, true, false, false, false, true, true, false, false, false] rfl rfl (take_ofW HT_.out HW_.out (by kernel_rfl)) (fun _ _ _ h => h) (Or.inl ⟨by rfl, ?_⟩) hHeld ?_ ?_
   rotate_left
   ·rintro w' ⟨s0, s1, s2, s3, s4⟩
    go_simp
    with_reducible rfl
   rotate_left
   ·simp only [Act.put, sT, sZ, sU, i64_w, i32_w]
    rfl
   refine join_ (σ := Value × Value × Value) 3 #[true, true, true, true, true, true, true, true, true, true, true, true, true, true, true, true, true, false, false, false] (fun s_ => [(11, s_.1), (15, s_.2.1), (17, s_.2.2), (16, .agg #[.int .i64 a0_1, .int .i64 a0_2, s_.2.1])]) (fun s_ w' => (w'.cell? ⟨gb433, 0, none⟩ = some (.int .i64 a0_0) ∧ w'.cell? ⟨gb433, 1, none⟩ = some (.int .i64 a0_1) ∧ w'.cell? ⟨gb433, 2, none⟩ = some (.int .i64 a0_2) ∧ w'.cell? ⟨gb433, 3, none⟩ = some (.slice A0_3 l0_3.length c0_3) ∧ w'.cell? ⟨gb433, 4, none⟩ = some (.slice A0_4 l0_4.length c0_4)) ∧ (Kd.R (Kd.int .i64) 3 w' w.heap.size (fun _ => True) s_.2.1 y438) ∧ (Kd.R k50 50 w' w.heap.size (fun _ => True) s_.2.2 y441) ∧ (w'.heap[gb433]? = some (.cells #[.int .i64 a0_0, .int .i64 a0_1, .int .i64 a0_2, .slice A0_3 l0_3.length c0_3, .slice A0_4 l0_4.length c0_4] 30 (0, 0))) ∧ (w'.heap[gb434]? = some (.cells #[.int .i64 0, .int .i64 0, .int .i64 0, .slice none 0 0, .slice none 0 0] 30 (0, 0))) ∧ (Below w.heap.size w w')) ?_ ?_
   rotate_left
   ·intro hCont
    refine two_ (i := 8) (j := 14) (Ni := some 11) (Nj := some 17) #[true, true, true, true, true, true, true, true, true, true, true, true, false, false, false, true, true, false, false, false] #[true, true, true, true, true, true, true, true, false, true, true, true, false, false, true, true, true, false, false, false] rfl rfl rfl rfl (two_of HT_.out (by kernel_rfl)) (by decide) (by decide) (fun K hK => ?_) (fun K hK => ?_)
    ·skip
     refine Kd.R_lit_step (Kd.int .i64) _ 3 ?hg (N := 11) ?hd (xs := ([] : List Int)) (inner := []) (ok := fun _ => True) (okp := fun _ => True) ?hr ?hp (fun _ hk => hk) trivial (Below.refl _ _) (Nat.le_refl _) (by simp) ?_; (case hd => rfl); (case hg => rfl); (case hr => first | (go_simp; done) | (go_simp; rfl)); (case hp => exact (Reps.none _ _))
     intro v436 w7 ho8 hb hg_ hnew_
     clear hg_ hnew_
     (first | rw [← Ny435.out] at ho8 | (simp only [Int.reduceToNat] at ho8; rw [← Ny435.out] at ho8))
     have HO437 := Aside0.mk (Kd.R_lower ho8 (below_size (pB HB)))
     replace BK433 := bB BK433 hb
     replace BK434 := bB BK434 hb
     replace HB := Aside0.mk (below_step (pB HB) hb)
     clear hb ho8
     refine hK.out _ _ ⟨(blk_cell BK433.out 0).trans rfl, (blk_cell BK433.out 1).trans rfl, (blk_cell BK433.out 2).trans rfl, (blk_cell BK433.out 3).trans rfl, (blk_cell BK433.out 4).trans rfl⟩ (fun hHeld => ?_)
     clear hK K
     refine norm_ (a' := ?_) ?_ ?_
     rotate_left
     ·show Act.put _ (some 11) _ = _
      simp only [Act.put, sT, sZ, sU, i64_w, i32_w]
      rfl
     refine two_ (i := 12) (j := 14) (Ni := some 15) (Nj := some 17) #[true, true, true, true, true, true, true, true, true, true, true, true, true, false, false, true, true, false, false, false] #[true, true, true, true, true, true, true, true, true, true, true, true, false, false, true, true, true, false, false, false] rfl rfl rfl rfl (two_of HT_.out (by kernel_rfl)) (by decide) (by decide) (fun K hK => ?_) (fun K hK => ?_)
     ·skip
      refine Kd.R_append_rows_step (Kd.int .i64) (w0 := w) w.heap.size (by rfl) (.tmp 11) (.tmp 14) 25 3 (.int .i64 0) 8 rfl Try.underlying25 info3 rfl (by decide) (by omega) v436 y435 l0_3 _ _ _ (fun _ => True) (fun _ => False) rfl rfl ?aO ?aR (fun _ _ h => h) (fun _ h => h.elim) ?aF ?aB ?aS ?aL ?_
      (case aR => exact cB HR0_3 HB)
      (case aB => exact (pB HB))
      (case aF => exact (fun _ _ => trivial))
      (case aO => exact (by (with_reducible repeat (first | apply Kd.R_alloc | apply Kd.R_drewN | apply Kd.R_drew)); exact HO437.out))
      (case aS => exact (below_size (pB HB)))
      (case aL => have := LMc2.out; omega)
      intro v439 w9 ho hb hg hat
      rw [← Ny438.out] at ho
      have n0_ := Aside0.mk (blk_grown (g := gb433) (o := .cells #[.int .i64 a0_0, .int .i64 a0_1, .int .i64 a0_2, .slice A0_3 l0_3.length c0_3, .slice A0_4 l0_4.length c0_4] 30 (0, 0)) (by (with_reducible repeat (first | refine blk_drewN ?_ _ | refine blk_drew ?_ | refine blk_alloc ?_ _)); exact BK433.out) hg (Kd.R_ne HO437.out BK433.out (by decide)))
      have n1_ := Aside0.mk (blk_grown (g := gb434) (o := .cells #[.int .i64 0, .int .i64 0, .int .i64 0, .slice none 0 0, .slice none 0 0] 30 (0, 0)) (by (with_reducible repeat (first | refine blk_drewN ?_ _ | refine blk_drew ?_ | refine blk_alloc ?_ _)); exact BK434.out) hg (Kd.R_ne HO437.out BK434.out (by decide)))
      have n2_ := Aside0.mk (hb)
      have n3_ := Aside0.mk (ho)
      clear BK433
      clear BK434
      clear HB
      clear HO437
      have BK433 := n0_
      have BK434 := n1_
      have HB := n2_
      have HO440 := n3_
      clear n0_ n1_ n2_ n3_
      clear ho hb hg hat
      obtain ⟨Ao10, co10, eo10⟩ := Kd.R_slice HO440.out
      (first | subst eo10 | (injection eo10 with f1_ f2_ f3_; have f4_ := f1_.symm; have f5_ := f3_.symm; clear f1_ f2_ f3_; subst f4_; subst f5_))
      refine hK.out _ _ ⟨(blk_cell BK433.out 0).trans rfl, (blk_cell BK433.out 1).trans rfl, (blk_cell BK433.out 2).trans rfl, (blk_cell BK433.out 3).trans rfl, (blk_cell BK433.out 4).trans rfl⟩ (fun hHeld => ?_)
      clear hK K
      refine norm_ (a' := ?_) ?_ ?_
      rotate_left
      ·show Act.put _ (some 15) _ = _
       simp only [Act.put, sT, sZ, sU, i64_w, i32_w]
       rfl
      refine pure_ (i := 13) (N := some 16) (v := ?_) (a' := ?_) #[true, true, true, true, true, true, true, true, true, true, true, true, true, true, false, true, true, false, false, false] rfl rfl (any_of HT_.out (by kernel_rfl)) (fun _ _ _ h => h) (Or.inl ⟨by rfl, ?_⟩) ?_ ?_
      rotate_left
      ·intro w'
       go_simp
       with_reducible rfl
      rotate_left
      ·simp only [Act.put, sT, sZ, sU, i64_w, i32_w]
       rfl
      refine one_ (i := 14) (N := some 17) #[true, true, true, true, true, true, true, true, true, true, true, true, true, true, true, true, true, false, false, false] rfl rfl (one_of HT_.out (by kernel_rfl)) (by decide) (fun K hK => ?_)
      refine Kd.R_lit_step k50 _ 50 ?hg (N := 17) ?hd (xs := ([] : List (S50))) (inner := []) (ok := fun _ => True) (okp := fun _ => True) ?hr ?hp (fun _ hk => hk) trivial (Below.refl _ _) (Nat.le_refl _) (by simp) ?_; (case hd => rfl); (case hg => rfl); (case hr => first | (go_simp; done) | (go_simp; rfl)); (case hp => exact (Reps.none _ _))
      intro v442 w11 ho12 hb hg_ hnew_
      clear hg_ hnew_
      (first | rw [← Ny441.out] at ho12 | (simp only [Int.reduceToNat] at ho12; rw [← Ny441.out] at ho12))
      have HO443 := Aside0.mk (Kd.R_lower ho12 (below_size (pB HB)))
      replace HO440 := rB HO440 hb
      replace BK433 := bB BK433 hb
      replace BK434 := bB BK434 hb
      replace HB := Aside0.mk (below_step (pB HB) hb)
      clear hb ho12
      refine hK.out _ _ ⟨(blk_cell BK433.out 0).trans rfl, (blk_cell BK433.out 1).trans rfl, (blk_cell BK433.out 2).trans rfl, (blk_cell BK433.out 3).trans rfl, (blk_cell BK433.out 4).trans rfl⟩ (fun hHeld => ?_)
      clear hK K
      refine norm_ (a' := ?_) ?_ ?_
      rotate_left
      ·show Act.put _ (some 17) _ = _
       simp only [Act.put, sT, sZ, sU, i64_w, i32_w]
       rfl
      exact norm_ (by simp only [putAll, Act.put, sT, sZ, sU]) (hCont (v436, .slice Ao10 y438.length co10, v442) _ ⟨hHeld, (by (with_reducible repeat (first | apply Kd.R_alloc | apply Kd.R_drewN | apply Kd.R_drew)); exact HO440.out), (by (with_reducible repeat (first | apply Kd.R_alloc | apply Kd.R_drewN | apply Kd.R_drew)); exact HO443.out), (by (with_reducible repeat (first | refine blk_drewN ?_ _ | refine blk_drew ?_ | refine blk_alloc ?_ _)); exact BK433.out), (by (with_reducible repeat (first | refine blk_drewN ?_ _ | refine blk_drew ?_ | refine blk_alloc ?_ _)); exact BK434.out), (pB HB)⟩)
     ·skip
      refine Kd.R_lit_step k50 _ 50 ?hg (N := 17) ?hd (xs := ([] : List (S50))) (inner := []) (ok := fun _ => True) (okp := fun _ => True) ?hr ?hp (fun _ hk => hk) trivial (Below.refl _ _) (Nat.le_refl _) (by simp) ?_; (case hd => rfl); (case hg => rfl); (case hr => first | (go_simp; done) | (go_simp; rfl)); (case hp => exact (Reps.none _ _))
      intro v442 w9 ho10 hb hg_ hnew_
      clear hg_ hnew_
      (first | rw [← Ny441.out] at ho10 | (simp only [Int.reduceToNat] at ho10; rw [← Ny441.out] at ho10))
      have HO443 := Aside0.mk (Kd.R_lower ho10 (below_size (pB HB)))
      replace HO437 := rB HO437 hb
      replace BK433 := bB BK433 hb
      replace BK434 := bB BK434 hb
      replace HB := Aside0.mk (below_step (pB HB) hb)
      clear hb ho10
      refine hK.out _ _ ⟨(blk_cell BK433.out 0).trans rfl, (blk_cell BK433.out 1).trans rfl, (blk_cell BK433.out 2).trans rfl, (blk_cell BK433.out 3).trans rfl, (blk_cell BK433.out 4).trans rfl⟩ (fun hHeld => ?_)
      clear hK K
      refine norm_ (a' := ?_) ?_ ?_
      rotate_left
      ·show Act.put _ (some 17) _ = _
       simp only [Act.put, sT, sZ, sU, i64_w, i32_w]
       rfl
      refine one_ (i := 12) (N := some 15) #[true, true, true, true, true, true, true, true, true, true, true, true, true, false, true, true, true, false, false, false] rfl rfl (one_of HT_.out (by kernel_rfl)) (by decide) (fun K hK => ?_)
      refine Kd.R_append_rows_step (Kd.int .i64) (w0 := w) w.heap.size (by rfl) (.tmp 11) (.tmp 14) 25 3 (.int .i64 0) 8 rfl Try.underlying25 info3 rfl (by decide) (by omega) v436 y435 l0_3 _ _ _ (fun _ => True) (fun _ => False) rfl rfl ?aO ?aR (fun _ _ h => h) (fun _ h => h.elim) ?aF ?aB ?aS ?aL ?_
      (case aR => exact cB HR0_3 HB)
      (case aB => exact (pB HB))
      (case aF => exact (fun _ _ => trivial))
      (case aO => exact (by (with_reducible repeat (first | apply Kd.R_alloc | apply Kd.R_drewN | apply Kd.R_drew)); exact HO437.out))
      (case aS => exact (below_size (pB HB)))
      (case aL => have := LMc2.out; omega)
      intro v439 w11 ho hb hg hat
      rw [← Ny438.out] at ho
      have n0_ := Aside0.mk (blk_grown (g := gb433) (o := .cells #[.int .i64 a0_0, .int .i64 a0_1, .int .i64 a0_2, .slice A0_3 l0_3.length c0_3, .slice A0_4 l0_4.length c0_4] 30 (0, 0)) (by (with_reducible repeat (first | refine blk_drewN ?_ _ | refine blk_drew ?_ | refine blk_alloc ?_ _)); exact BK433.out) hg (Kd.R_ne HO437.out BK433.out (by decide)))
      have n1_ := Aside0.mk (blk_grown (g := gb434) (o := .cells #[.int .i64 0, .int .i64 0, .int .i64 0, .slice none 0 0, .slice none 0 0] 30 (0, 0)) (by (with_reducible repeat (first | refine blk_drewN ?_ _ | refine blk_drew ?_ | refine blk_alloc ?_ _)); exact BK434.out) hg (Kd.R_ne HO437.out BK434.out (by decide)))
      have n2_ := Aside0.mk (Kd.R_over' (by (with_reducible repeat (first | apply Kd.R_alloc | apply Kd.R_drewN | apply Kd.R_drew)); exact HO443.out) (Kd.R_typed (by (with_reducible repeat (first | apply Kd.R_alloc | apply Kd.R_drewN | apply Kd.R_drew)); exact HO437.out)) (by decide) hg)
      have n3_ := Aside0.mk (hb)
      have n4_ := Aside0.mk (ho)
      clear BK433
      clear BK434
      clear HO443
      clear HB
      clear HO437
      have BK433 := n0_
      have BK434 := n1_
      have HO443 := n2_
      have HB := n3_
      have HO440 := n4_
      clear n0_ n1_ n2_ n3_ n4_
      clear ho hb hg hat
      obtain ⟨Ao12, co12, eo12⟩ := Kd.R_slice HO440.out
      (first | subst eo12 | (injection eo12 with f1_ f2_ f3_; have f4_ := f1_.symm; have f5_ := f3_.symm; clear f1_ f2_ f3_; subst f4_; subst f5_))
      refine hK.out _ _ ⟨(blk_cell BK433.out 0).trans rfl, (blk_cell BK433.out 1).trans rfl, (blk_cell BK433.out 2).trans rfl, (blk_cell BK433.out 3).trans rfl, (blk_cell BK433.out 4).trans rfl⟩ (fun hHeld => ?_)
      clear hK K
      refine norm_ (a' := ?_) ?_ ?_
      rotate_left
      ·show Act.put _ (some 15) _ = _
       simp only [Act.put, sT, sZ, sU, i64_w, i32_w]
       rfl
      refine pure_ (i := 13) (N := some 16) (v := ?_) (a' := ?_) #[true, true, true, true, true, true, true, true, true, true, true, true, true, true, true, true, true, false, false, false] rfl rfl (any_of HT_.out (by kernel_rfl)) (fun _ _ _ h => h) (Or.inl ⟨by rfl, ?_⟩) ?_ ?_
      rotate_left
      ·intro w'
       go_simp
       with_reducible rfl
      rotate_left
      ·simp only [Act.put, sT, sZ, sU, i64_w, i32_w]
       rfl
      exact norm_ (by simp only [putAll, Act.put, sT, sZ, sU]) (hCont (v436, .slice Ao12 y438.length co12, v442) _ ⟨hHeld, (by (with_reducible repeat (first | apply Kd.R_alloc | apply Kd.R_drewN | apply Kd.R_drew)); exact HO440.out), (by (with_reducible repeat (first | apply Kd.R_alloc | apply Kd.R_drewN | apply Kd.R_drew)); exact HO443.out), (by (with_reducible repeat (first | refine blk_drewN ?_ _ | refine blk_drew ?_ | refine blk_alloc ?_ _)); exact BK433.out), (by (with_reducible repeat (first | refine blk_drewN ?_ _ | refine blk_drew ?_ | refine blk_alloc ?_ _)); exact BK434.out), (pB HB)⟩)
    ·skip
     refine Kd.R_lit_step k50 _ 50 ?hg (N := 17) ?hd (xs := ([] : List (S50))) (inner := []) (ok := fun _ => True) (okp := fun _ => True) ?hr ?hp (fun _ hk => hk) trivial (Below.refl _ _) (Nat.le_refl _) (by simp) ?_; (case hd => rfl); (case hg => rfl); (case hr => first | (go_simp; done) | (go_simp; rfl)); (case hp => exact (Reps.none _ _))
     intro v442 w7 ho8 hb hg_ hnew_
     clear hg_ hnew_
     (first | rw [← Ny441.out] at ho8 | (simp only [Int.reduceToNat] at ho8; rw [← Ny441.out] at ho8))
     have HO443 := Aside0.mk (Kd.R_lower ho8 (below_size (pB HB)))
     replace BK433 := bB BK433 hb
     replace BK434 := bB BK434 hb
     replace HB := Aside0.mk (below_step (pB HB) hb)
     clear hb ho8
     refine hK.out _ _ ⟨(blk_cell BK433.out 0).trans rfl, (blk_cell BK433.out 1).trans rfl, (blk_cell BK433.out 2).trans rfl, (blk_cell BK433.out 3).trans rfl, (blk_cell BK433.out 4).trans rfl⟩ (fun hHeld => ?_)
     clear hK K
     refine norm_ (a' := ?_) ?_ ?_
     rotate_left
     ·show Act.put _ (some 17) _ = _
      simp only [Act.put, sT, sZ, sU, i64_w, i32_w]
      rfl
     refine one_ (i := 8) (N := some 11) #[true, true, true, true, true, true, true, true, true, true, true, true, false, false, true, true, true, false, false, false] rfl rfl (one_of HT_.out (by kernel_rfl)) (by decide) (fun K hK => ?_)
     refine Kd.R_lit_step (Kd.int .i64) _ 3 ?hg (N := 11) ?hd (xs := ([] : List Int)) (inner := []) (ok := fun _ => True) (okp := fun _ => True) ?hr ?hp (fun _ hk => hk) trivial (Below.refl _ _) (Nat.le_refl _) (by simp) ?_; (case hd => rfl); (case hg => rfl); (case hr => first | (go_simp; done) | (go_simp; rfl)); (case hp => exact (Reps.none _ _))
     intro v436 w9 ho10 hb hg_ hnew_
     clear hg_ hnew_
     (first | rw [← Ny435.out] at ho10 | (simp only [Int.reduceToNat] at ho10; rw [← Ny435.out] at ho10))
     have HO437 := Aside0.mk (Kd.R_lower ho10 (below_size (pB HB)))
     replace HO443 := rB HO443 hb
     replace BK433 := bB BK433 hb
     replace BK434 := bB BK434 hb
     replace HB := Aside0.mk (below_step (pB HB) hb)
     clear hb ho10
     refine hK.out _ _ ⟨(blk_cell BK433.out 0).trans rfl, (blk_cell BK433.out 1).trans rfl, (blk_cell BK433.out 2).trans rfl, (blk_cell BK433.out 3).trans rfl, (blk_cell BK433.out 4).trans rfl⟩ (fun hHeld => ?_)
     clear hK K
     refine norm_ (a' := ?_) ?_ ?_
     rotate_left
     ·show Act.put _ (some 11) _ = _
      simp only [Act.put, sT, sZ, sU, i64_w, i32_w]
      rfl
     refine one_ (i := 12) (N := some 15) #[true, true, true, true, true, true, true, true, true, true, true, true, true, false, true, true, true, false, false, false] rfl rfl (one_of HT_.out (by kernel_rfl)) (by decide) (fun K hK => ?_)
     refine Kd.R_append_rows_step (Kd.int .i64) (w0 := w) w.heap.size (by rfl) (.tmp 11) (.tmp 14) 25 3 (.int .i64 0) 8 rfl Try.underlying25 info3 rfl (by decide) (by omega) v436 y435 l0_3 _ _ _ (fun _ => True) (fun _ => False) rfl rfl ?aO ?aR (fun _ _ h => h) (fun _ h => h.elim) ?aF ?aB ?aS ?aL ?_
     (case aR => exact cB HR0_3 HB)
     (case aB => exact (pB HB))
     (case aF => exact (fun _ _ => trivial))
     (case aO => exact (by (with_reducible repeat (first | apply Kd.R_alloc | apply Kd.R_drewN | apply Kd.R_drew)); exact HO437.out))
     (case aS => exact (below_size (pB HB)))
     (case aL => have := LMc2.out; omega)
     intro v439 w11 ho hb hg hat
     rw [← Ny438.out] at ho
     have n0_ := Aside0.mk (blk_grown (g := gb433) (o := .cells #[.int .i64 a0_0, .int .i64 a0_1, .int .i64 a0_2, .slice A0_3 l0_3.length c0_3, .slice A0_4 l0_4.length c0_4] 30 (0, 0)) (by (with_reducible repeat (first | refine blk_drewN ?_ _ | refine blk_drew ?_ | refine blk_alloc ?_ _)); exact BK433.out) hg (Kd.R_ne HO437.out BK433.out (by decide)))
     have n1_ := Aside0.mk (blk_grown (g := gb434) (o := .cells #[.int .i64 0, .int .i64 0, .int .i64 0, .slice none 0 0, .slice none 0 0] 30 (0, 0)) (by (with_reducible repeat (first | refine blk_drewN ?_ _ | refine blk_drew ?_ | refine blk_alloc ?_ _)); exact BK434.out) hg (Kd.R_ne HO437.out BK434.out (by decide)))
     have n2_ := Aside0.mk (Kd.R_over' (by (with_reducible repeat (first | apply Kd.R_alloc | apply Kd.R_drewN | apply Kd.R_drew)); exact HO443.out) (Kd.R_typed (by (with_reducible repeat (first | apply Kd.R_alloc | apply Kd.R_drewN | apply Kd.R_drew)); exact HO437.out)) (by decide) hg)
     have n3_ := Aside0.mk (hb)
     have n4_ := Aside0.mk (ho)
     clear BK433
     clear BK434
     clear HO443
     clear HB
     clear HO437
     have BK433 := n0_
     have BK434 := n1_
     have HO443 := n2_
     have HB := n3_
     have HO440 := n4_
     clear n0_ n1_ n2_ n3_ n4_
     clear ho hb hg hat
     obtain ⟨Ao12, co12, eo12⟩ := Kd.R_slice HO440.out
     (first | subst eo12 | (injection eo12 with f1_ f2_ f3_; have f4_ := f1_.symm; have f5_ := f3_.symm; clear f1_ f2_ f3_; subst f4_; subst f5_))
     refine hK.out _ _ ⟨(blk_cell BK433.out 0).trans rfl, (blk_cell BK433.out 1).trans rfl, (blk_cell BK433.out 2).trans rfl, (blk_cell BK433.out 3).trans rfl, (blk_cell BK433.out 4).trans rfl⟩ (fun hHeld => ?_)
     clear hK K
     refine norm_ (a' := ?_) ?_ ?_
     rotate_left
     ·show Act.put _ (some 15) _ = _
      simp only [Act.put, sT, sZ, sU, i64_w, i32_w]
      rfl
     refine pure_ (i := 13) (N := some 16) (v := ?_) (a' := ?_) #[true, true, true, true, true, true, true, true, true, true, true, true, true, true, true, true, true, false, false, false] rfl rfl (any_of HT_.out (by kernel_rfl)) (fun _ _ _ h => h) (Or.inl ⟨by rfl, ?_⟩) ?_ ?_
     rotate_left
     ·intro w'
      go_simp
      with_reducible rfl
     rotate_left
     ·simp only [Act.put, sT, sZ, sU, i64_w, i32_w]
      rfl
     exact norm_ (by simp only [putAll, Act.put, sT, sZ, sU]) (hCont (v436, .slice Ao12 y438.length co12, v442) _ ⟨hHeld, (by (with_reducible repeat (first | apply Kd.R_alloc | apply Kd.R_drewN | apply Kd.R_drew)); exact HO440.out), (by (with_reducible repeat (first | apply Kd.R_alloc | apply Kd.R_drewN | apply Kd.R_drew)); exact HO443.out), (by (with_reducible repeat (first | refine blk_drewN ?_ _ | refine blk_drew ?_ | refine blk_alloc ?_ _)); exact BK433.out), (by (with_reducible repeat (first | refine blk_drewN ?_ _ | refine blk_drew ?_ | refine blk_alloc ?_ _)); exact BK434.out), (pB HB)⟩)
   rintro ⟨v436, v439, v442⟩ w13 ⟨hS_, h0_, h1_, h2_, h3_, h4_⟩
   have n0_ : Aside0 (Kd.R (Kd.int .i64) 3 w13 w.heap.size (fun _ => True) v439 y438) := ⟨h0_⟩
   have n1_ : Aside0 (Kd.R k50 50 w13 w.heap.size (fun _ => True) v442 y441) := ⟨h1_⟩
   have n2_ : Aside0 (w13.heap[gb433]? = some (.cells #[.int .i64 a0_0, .int .i64 a0_1, .int .i64 a0_2, .slice A0_3 l0_3.length c0_3, .slice A0_4 l0_4.length c0_4] 30 (0, 0))) := ⟨h2_⟩
   have n3_ : Aside0 (w13.heap[gb434]? = some (.cells #[.int .i64 0, .int .i64 0, .int .i64 0, .slice none 0 0, .slice none 0 0] 30 (0, 0))) := ⟨h3_⟩
   have n4_ : Aside0 (Below w.heap.size w w13) := ⟨h4_⟩
   clear BK433
   clear BK434
   clear HB
   clear h0_ h1_ h2_ h3_ h4_
   have HO440 := n0_
   have HO443 := n1_
   have BK433 := n2_
   have BK434 := n3_
   have HB := n4_
   clear n0_ n1_ n2_ n3_ n4_
   have hHeld : w13.cell? ⟨gb433, 0, none⟩ = some (.int .i64 a0_0) ∧ w13.cell? ⟨gb433, 1, none⟩ = some (.int .i64 a0_1) ∧ w13.cell? ⟨gb433, 2, none⟩ = some (.int .i64 a0_2) ∧ w13.cell? ⟨gb433, 3, none⟩ = some (.slice A0_3 l0_3.length c0_3) ∧ w13.cell? ⟨gb433, 4, none⟩ = some (.slice A0_4 l0_4.length c0_4) := hS_
   obtain ⟨Ao14, co14, eo14⟩ := Kd.R_slice HO440.out
   (first | subst eo14 | (injection eo14 with f1_ f2_ f3_; have f4_ := f1_.symm; have f5_ := f3_.symm; clear f1_ f2_ f3_; subst f4_; subst f5_))
   refine norm_ (a' := ?_) ?_ ?_
   rotate_left
   ·simp only [putAll, Act.put, sT, sZ, sU]
    rfl
   refine one_ (i := 17) (N := some 20) #[true, true, true, true, true, true, true, true, true, true, true, true, true, true, true, true, true, true, false, false] rfl rfl (one_of HT_.out (by kernel_rfl)) (by decide) (fun K hK => ?_)
   refine Kd.R_append_rows_step k50 (w0 := w) w.heap.size (by rfl) (.tmp 17) (.tmp 19) 28 50 (.agg #[(.int .i64 0), (.int .i64 0), (.int .i64 0), (.int .i64 0), (.bool false)]) 40 rfl Try.underlying28 info50 rfl (by decide) (by omega) v442 y441 l0_4 _ _ _ (fun _ => True) (fun _ => False) rfl rfl ?aO ?aR (fun _ _ h => h) (fun _ h => h.elim) ?aF ?aB ?aS ?aL ?_
   (case aR => exact cB HR0_4 HB)
   (case aB => exact (pB HB))
   (case aF => exact (fun _ _ => trivial))
   (case aO => exact (by (with_reducible repeat (first | apply Kd.R_alloc | apply Kd.R_drewN | apply Kd.R_drew)); exact HO443.out))
   (case aS => exact (below_size (pB HB)))
   (case aL => have := LMc3.out; omega)
   intro v445 w15 ho hb hg hat
   rw [← Ny444.out] at ho
   have n0_ := Aside0.mk (blk_grown (g := gb433) (o := .cells #[.int .i64 a0_0, .int .i64 a0_1, .int .i64 a0_2, .slice A0_3 l0_3.length c0_3, .slice A0_4 l0_4.length c0_4] 30 (0, 0)) (by (with_reducible repeat (first | refine blk_drewN ?_ _ | refine blk_drew ?_ | refine blk_alloc ?_ _)); exact BK433.out) hg (Kd.R_ne HO443.out BK433.out (by decide)))
   have n1_ := Aside0.mk (blk_grown (g := gb434) (o := .cells #[.int .i64 0, .int .i64 0, .int .i64 0, .slice none 0 0, .slice none 0 0] 30 (0, 0)) (by (with_reducible repeat (first | refine blk_drewN ?_ _ | refine blk_drew ?_ | refine blk_alloc ?_ _)); exact BK434.out) hg (Kd.R_ne HO443.out BK434.out (by decide)))
   have n2_ := Aside0.mk (Kd.R_over' (by (with_reducible repeat (first | apply Kd.R_alloc | apply Kd.R_drewN | apply Kd.R_drew)); exact HO440.out) (Kd.R_typed (by (with_reducible repeat (first | apply Kd.R_alloc | apply Kd.R_drewN | apply Kd.R_drew)); exact HO443.out)) (by decide) hg)
   have n3_ := Aside0.mk (hb)
   have n4_ := Aside0.mk (ho)
   clear BK433
   clear BK434
   clear HO440
   clear HB
   clear HO443
   have BK433 := n0_
   have BK434 := n1_
   have HO440 := n2_
   have HB := n3_
   have HO446 := n4_
   clear n0_ n1_ n2_ n3_ n4_
   clear ho hb hg hat
   obtain ⟨Ao16, co16, eo16⟩ := Kd.R_slice HO446.out
   (first | subst eo16 | (injection eo16 with f1_ f2_ f3_; have f4_ := f1_.symm; have f5_ := f3_.symm; clear f1_ f2_ f3_; subst f4_; subst f5_))
   refine hK.out _ _ ⟨(blk_cell BK433.out 0).trans rfl, (blk_cell BK433.out 1).trans rfl, (blk_cell BK433.out 2).trans rfl, (blk_cell BK433.out 3).trans rfl, (blk_cell BK433.out 4).trans rfl⟩ (fun hHeld => ?_)
   clear hK K
   refine norm_ (a' := ?_) ?_ ?_
   rotate_left
   ·show Act.put _ (some 20) _ = _
    simp only [Act.put, sT, sZ, sU, i64_w, i32_w]
    rfl
   refine pure_ (i := 18) (N := some 21) (v := ?_) (a' := ?_) #[true, true, true, true, true, true, true, true, true, true, true, true, true, true, true, true, true, true, true, false] rfl rfl (any_of HT_.out (by kernel_rfl)) (fun _ _ _ h => h) (Or.inl ⟨by rfl, ?_⟩) ?_ ?_
   rotate_left
   ·intro w'
    go_simp
    with_reducible rfl
   rotate_left
   ·simp only [Act.put, sT, sZ, sU, i64_w, i32_w]
    rfl
   refine one_ (i := 19) (N := none) #[true, true, true, true, true, true, true, true, true, true, true, true, true, true, true, true, true, true, true, true] rfl rfl (one_of HT_.out (by kernel_rfl)) (by decide) (fun K hK => ?_)
   have hs17 : w15.cell? ⟨gb434, 0, none⟩ = some (.int .i64 0) := (blk_cell BK434.out 0).trans rfl
   have hfs17 := blk_frozen BK434.out 0
   have hns17_0 := NB433_434.out
   have hms17_0 := NB434_433.out
   have hs18 : w15.cell? ⟨gb434, 1, none⟩ = some (.int .i64 0) := (blk_cell BK434.out 1).trans rfl
   have hfs18 := blk_frozen BK434.out 1
   have hns18_0 := NB433_434.out
   have hms18_0 := NB434_433.out
   have hs19 : w15.cell? ⟨gb434, 2, none⟩ = some (.int .i64 0) := (blk_cell BK434.out 2).trans rfl
   have hfs19 := blk_frozen BK434.out 2
   have hns19_0 := NB433_434.out
   have hms19_0 := NB434_433.out
   have hs20 : w15.cell? ⟨gb434, 3, none⟩ = some (.slice none 0 0) := (blk_cell BK434.out 3).trans rfl
   have hfs20 := blk_frozen BK434.out 3
   have hns20_0 := NB433_434.out
   have hms20_0 := NB434_433.out
   have hs21 : w15.cell? ⟨gb434, 4, none⟩ = some (.slice none 0 0) := (blk_cell BK434.out 4).trans rfl
   have hfs21 := blk_frozen BK434.out 4
   have hns21_0 := NB433_434.out
   have hms21_0 := NB434_433.out
   refine skip_ (w1 := ?_) (by rfl) rfl ?_ ?_
   rotate_left
   ·go_simp
    rfl
   refine hK.out _ _ ⟨((cell_far (p := ⟨gb434, _, none⟩) NB433_434.out _).trans (((cell_far (p := ⟨gb434, _, none⟩) NB433_434.out _).trans (((cell_far (p := ⟨gb434, _, none⟩) NB433_434.out _).trans (((cell_far (p := ⟨gb434, _, none⟩) NB433_434.out _).trans (((cell_far (p := ⟨gb434, _, none⟩) NB433_434.out _).trans (hHeld.1)))))))))), ((cell_far (p := ⟨gb434, _, none⟩) NB433_434.out _).trans (((cell_far (p := ⟨gb434, _, none⟩) NB433_434.out _).trans (((cell_far (p := ⟨gb434, _, none⟩) NB433_434.out _).trans (((cell_far (p := ⟨gb434, _, none⟩) NB433_434.out _).trans (((cell_far (p := ⟨gb434, _, none⟩) NB433_434.out _).trans (hHeld.2.1)))))))))), ((cell_far (p := ⟨gb434, _, none⟩) NB433_434.out _).trans (((cell_far (p := ⟨gb434, _, none⟩) NB433_434.out _).trans (((cell_far (p := ⟨gb434, _, none⟩) NB433_434.out _).trans (((cell_far (p := ⟨gb434, _, none⟩) NB433_434.out _).trans (((cell_far (p := ⟨gb434, _, none⟩) NB433_434.out _).trans (hHeld.2.2.1)))))))))), ((cell_far (p := ⟨gb434, _, none⟩) NB433_434.out _).trans (((cell_far (p := ⟨gb434, _, none⟩) NB433_434.out _).trans (((cell_far (p := ⟨gb434, _, none⟩) NB433_434.out _).trans (((cell_far (p := ⟨gb434, _, none⟩) NB433_434.out _).trans (((cell_far (p := ⟨gb434, _, none⟩) NB433_434.out _).trans (hHeld.2.2.2.1)))))))))), ((cell_far (p := ⟨gb434, _, none⟩) NB433_434.out _).trans (((cell_far (p := ⟨gb434, _, none⟩) NB433_434.out _).trans (((cell_far (p := ⟨gb434, _, none⟩) NB433_434.out _).trans (((cell_far (p := ⟨gb434, _, none⟩) NB433_434.out _).trans (((cell_far (p := ⟨gb434, _, none⟩) NB433_434.out _).trans (hHeld.2.2.2.2))))))))))⟩ (fun hHeld => ?_)
   clear hK K
   refine done_ (done_of HT_.out (by kernel_rfl)) ?_
   try go_wp2
   refine bodyPost_ret (results_cell_row rfl _ _ gb434 30 #[.int .i64 a0_0, .int .i64 a0_1, .int .i64 a0_2, .slice Ao14 y438.length co14, .slice Ao16 y444.length co16] (0, 0) _ rfl (by (with_reducible repeat (first | refine blk_drewN ?_ _ | refine blk_drew ?_ | refine blk_alloc ?_ _)); refine blk_put (cs := #[.int .i64 a0_0, .int .i64 a0_1, .int .i64 a0_2, .slice Ao14 y438.length co14, .slice none 0 0]) ?_ 4 _ rfl; (with_reducible repeat (first | refine blk_drewN ?_ _ | refine blk_drew ?_ | refine blk_alloc ?_ _)); refine blk_put (cs := #[.int .i64 a0_0, .int .i64 a0_1, .int .i64 a0_2, .slice none 0 0, .slice none 0 0]) ?_ 3 _ rfl; (with_reducible repeat (first | refine blk_drewN ?_ _ | refine blk_drew ?_ | refine blk_alloc ?_ _)); refine blk_put (cs := #[.int .i64 a0_0, .int .i64 a0_1, .int .i64 0, .slice none 0 0, .slice none 0 0]) ?_ 2 _ rfl; (with_reducible repeat (first | refine blk_drewN ?_ _ | refine blk_drew ?_ | refine blk_alloc ?_ _)); refine blk_put (cs := #[.int .i64 a0_0, .int .i64 0, .int .i64 0, .slice none 0 0, .slice none 0 0]) ?_ 1 _ rfl; (with_reducible repeat (first | refine blk_drewN ?_ _ | refine blk_drew ?_ | refine blk_alloc ?_ _)); refine blk_put (cs := #[.int .i64 0, .int .i64 0, .int .i64 0, .slice none 0 0, .slice none 0 0]) ?_ 0 _ rfl; (with_reducible repeat (first | refine blk_drewN ?_ _ | refine blk_drew ?_ | refine blk_alloc ?_ _)); exact BK434.out) Try.underlying30 rfl (by kernel_rfl)) rfl ?_
   exact ⟨_, _, by first | rfl | (simp [errW_none, errW_some] <;> rfl) | (simp [*, errW_none, errW_some] <;> rfl), by (with_reducible repeat (first | apply Kd.R_alloc | apply Kd.R_drewN | apply Kd.R_drew)); exact Kd.R_mono (Kd.R_far (p := ⟨gb434, 4, none⟩) (Kd.R_far (p := ⟨gb434, 3, none⟩) (Kd.R_far (p := ⟨gb434, 2, none⟩) (Kd.R_far (p := ⟨gb434, 1, none⟩) (Kd.R_far (p := ⟨gb434, 0, none⟩) (Kd.R_types HO440.out BK434.out (by decide)) (fun _ hk => hk.2) (.int .i64 a0_0)) (fun _ hk => hk.2) (.int .i64 a0_1)) (fun _ hk => hk.2) (.int .i64 a0_2)) (fun _ hk => hk.2) (.slice Ao14 y438.length co14)) (fun _ hk => hk.2) (.slice Ao16 y444.length co16)) (fun _ hk => trivial), by (with_reducible repeat (first | apply Kd.R_alloc | apply Kd.R_drewN | apply Kd.R_drew)); exact Kd.R_mono (Kd.R_far (p := ⟨gb434, 4, none⟩) (Kd.R_far (p := ⟨gb434, 3, none⟩) (Kd.R_far (p := ⟨gb434, 2, none⟩) (Kd.R_far (p := ⟨gb434, 1, none⟩) (Kd.R_far (p := ⟨gb434, 0, none⟩) (Kd.R_types HO446.out BK434.out (by decide)) (fun _ hk => hk.2) (.int .i64 a0_0)) (fun _ hk => hk.2) (.int .i64 a0_1)) (fun _ hk => hk.2) (.int .i64 a0_2)) (fun _ hk => hk.2) (.slice Ao14 y438.length co14)) (fun _ hk => hk.2) (.slice Ao16 y444.length co16)) (fun _ hk => trivial), pB HB⟩
  ·rw [if_neg c3] at H
   exact absurd H (by simp)
 ·rw [if_neg c2] at H
  exact absurd H (by simp)
end Go.Proofs.Ytpfiecjacpbhkaa.D

namespace Go.Proofs.Ytpfiecjacpbhkaa.D
open Go.RowKit Go.Proofs.YtpfiecjacpbhkaaW.PrintWords Go.Proofs.YtpfiecjacpbhkaaW.PrintLast Go.Proofs.YtpfiecjacpbhkaaW.PrintMore
set_option linter.unusedVariables false
set_option linter.unusedSimpArgs false
def gtR (x r : S52) : Bool := decide (r.f1 < x.f1) || (x.f1 == r.f1 && decide (r.f0 < x.f0))
def posR (l : List S52) (r : S52) : Nat → Nat
  | 0 => 0
  | k + 1 => if gtR (rd_T52 l (k : Int)) r = true then posR l r k else k + 1
def shR (l : List S52) (p : Nat) : Nat → List S52
  | 0 => l
  | j + 1 => if p < j + 1 then shR (l.set (j + 1) (rd_T52 l (j : Int))) p j else l
def insR (l : List S52) (r : S52) : List S52 := (shR (l ++ [⟨0, 0, 0⟩]) (posR l r l.length) l.length).set (posR l r l.length) r
theorem posR_le (l : List S52) (r : S52) : ∀ k, posR l r k ≤ k
  | 0 => Nat.le_refl _
  | k + 1 => by
    unfold posR
    split
    · exact Nat.le_succ_of_le (posR_le l r k)
    · exact Nat.le_refl _
theorem shR_length (p : Nat) : ∀ (j : Nat) (l : List S52), (shR l p j).length = l.length
  | 0, l => rfl
  | j + 1, l => by
    unfold shR
    split
    · rw [shR_length p j, List.length_set]
    · rfl
theorem insR_length (l : List S52) (r : S52) : (insR l r).length = l.length + 1 := by unfold insR; rw [List.length_set, shR_length]; simp
def lapses2 (day : Int) (m : S50) : Bool := (m.f1 == 2 || m.f1 == 4) && decide (m.f2 < day)
def lapM2 (day : Int) (m : S50) : S50 := ⟨m.f0, 6, 0, m.f3, m.f1 == 2⟩
def lapR2 (m : S50) : S52 := ⟨m.f0, wrap64 (m.f2 + 1), m.f3⟩
def lapGo (day : Int) : Nat → List S50 → List S52 → Nat → List S50 × List S52
  | 0, ms, l, _ => (ms, l)
  | n + 1, ms, l, i => if lapses2 day (rd_T50 ms (i : Int)) = true then lapGo day n (ms.set i (lapM2 day (rd_T50 ms (i : Int)))) (insR l (lapR2 (rd_T50 ms (i : Int)))) (i + 1) else lapGo day n ms l (i + 1)
def insolvencyref33_lapsed.f (k : Nat) (a0 a1 a2 : Int) (l3 : List Int) (l4 : List S50) (at_ : Int) : Option (Int × Int × Int × List Int × List S50 × List S52) :=
  if l3.length < 1000000 ∧ l4.length < 1000000 then some (at_, a1, a2, l3, (lapGo at_ l4.length l4 [] 0).1, (lapGo at_ l4.length l4 [] 0).2) else none
theorem insolvencyref33_lapsed.mono : ∀ a0 a1 a2 a3 a4 a5 k, LeO (insolvencyref33_lapsed.f k a0 a1 a2 a3 a4 a5) (insolvencyref33_lapsed.f (k + 1) a0 a1 a2 a3 a4 a5) := fun _ _ _ _ _ _ _ => LeO.refl _
structure LapSt (w W : World) (gO gZ : Nat) (day ans app : Int) (v3 v4 v5 : Value) (hs : List Int) (ms : List S50) (l : List S52) : Prop where
  b : Below w.heap.size w W
  o : W.heap[gO]? = some (.cells #[.int .i64 day, .int .i64 ans, .int .i64 app, v3, v4] 30 (0, 0))
  z : W.heap[gZ]? = some (.cells #[.int .i64 0, .int .i64 0, .int .i64 0, .slice none 0 0, .slice none 0 0] 30 (0, 0))
  r3 : Kd.R (Kd.int .i64) 3 W w.heap.size (fun _ => True) v3 hs
  r4 : Kd.R k50 50 W w.heap.size (fun _ => True) v4 ms
  r5 : Kd.R k52 52 W w.heap.size (fun _ => True) v5 l
theorem elm5 {e base g n cap : Nat} {ok : Nat → Prop} {W : World} {xs : List S50} (h : Kd.R k50 e W base ok (.slice (some ⟨g, 0, none⟩) n cap) xs) (i : Int) (h0 : 0 ≤ i) (h1 : i < n) (m : S50) (hm : rd_T50 xs i = m) :
    (W.cell? ⟨g, i.toNat * 5, none⟩ = some (.int .i64 m.f0) ∧ W.cell? ⟨g, i.toNat * 5 + 1, none⟩ = some (.int .i64 m.f1) ∧ W.cell? ⟨g, i.toNat * 5 + 2, none⟩ = some (.int .i64 m.f2) ∧ W.cell? ⟨g, i.toNat * 5 + 3, none⟩ = some (.int .i64 m.f3) ∧ W.cell? ⟨g, i.toNat * 5 + 4, none⟩ = some (.bool m.f4)) ∧
    (W.frozen? ⟨g, i.toNat * 5 + 1, none⟩ = false ∧ W.frozen? ⟨g, i.toNat * 5 + 2, none⟩ = false ∧ W.frozen? ⟨g, i.toNat * 5 + 4, none⟩ = false) := by
  obtain ⟨ce, hcl, hM, hcc, hfr⟩ := Kd.R_elem h z50 i h0 h1
  obtain rfl := k50_openM hM
  subst hm
  exact ⟨⟨hcc 0 _ rfl, hcc 1 _ rfl, hcc 2 _ rfl, hcc 3 _ rfl, hcc 4 _ rfl⟩, hfr 1, hfr 2, hfr 4⟩
section
variable {w W W' : World} {gO gZ : Nat} {day ans app : Int} {v3 v4 v5 : Value} {hs : List Int} {ms : List S50} {l : List S52}
theorem LapSt.below (h : LapSt w W gO gZ day ans app v3 v4 v5 hs ms l) (hb : Below W.heap.size W W') : LapSt w W' gO gZ day ans app v3 v4 v5 hs ms l :=
  ⟨below_step h.b hb, blk_below h.o hb, blk_below h.z hb, Kd.R_below h.r3 hb, Kd.R_below h.r4 hb, Kd.R_below h.r5 hb⟩
theorem LapSt.setM (h : LapSt w W gO gZ day ans app v3 v4 v5 hs ms l) {ms' : List S50} (hg : W.grownBy W' v4.ownBlock) (hr : Kd.R k50 50 W' w.heap.size (fun _ => True) v4 ms') : LapSt w W' gO gZ day ans app v3 v4 v5 hs ms' l :=
  ⟨h.b.grown hg h.b.size (fun k hk => by
      rcases Kd.R_base2 h.r4 with e | ⟨k', e, hk'⟩
      · rw [e] at hk; cases hk
      · rw [e] at hk; cases hk; exact hk'),
    blk_grown h.o hg (Kd.R_ne h.r4 h.o (by decide)), blk_grown h.z hg (Kd.R_ne h.r4 h.z (by decide)), Kd.R_over' h.r3 (Kd.R_typed h.r4) (by decide) hg, hr, Kd.R_over' h.r5 (Kd.R_typed h.r4) (by decide) hg⟩
theorem LapSt.setR (h : LapSt w W gO gZ day ans app v3 v4 v5 hs ms l) {l' : List S52} {v5' : Value} (hg : W.grownBy W' v5.ownBlock) (hr : Kd.R k52 52 W' w.heap.size (fun _ => True) v5' l') : LapSt w W' gO gZ day ans app v3 v4 v5' hs ms l' :=
  ⟨h.b.grown hg h.b.size (fun k hk => by
      rcases Kd.R_base2 h.r5 with e | ⟨k', e, hk'⟩
      · rw [e] at hk; cases hk
      · rw [e] at hk; cases hk; exact hk'),
    blk_grown h.o hg (Kd.R_ne h.r5 h.o (by decide)), blk_grown h.z hg (Kd.R_ne h.r5 h.z (by decide)), Kd.R_over' h.r3 (Kd.R_typed h.r5) (by decide) hg, Kd.R_over' h.r4 (Kd.R_typed h.r5) (by decide) hg, hr⟩
end
theorem elmR {e base g n cap : Nat} {ok : Nat → Prop} {W : World} {xs : List S52} (h : Kd.R k52 e W base ok (.slice (some ⟨g, 0, none⟩) n cap) xs) (i : Nat) (h1 : i < n) (m : S52) (hm : rd_T52 xs (i : Int) = m) :
    (W.cell? ⟨g, i * 3, none⟩ = some (.int .i64 m.f0) ∧ W.cell? ⟨g, i * 3 + 1, none⟩ = some (.int .i64 m.f1) ∧ W.cell? ⟨g, i * 3 + 2, none⟩ = some (.int .i64 m.f2)) ∧
    (W.frozen? ⟨g, i * 3, none⟩ = false ∧ W.frozen? ⟨g, i * 3 + 1, none⟩ = false ∧ W.frozen? ⟨g, i * 3 + 2, none⟩ = false) := by
  obtain ⟨ce, hcl, hM, hcc, hfr⟩ := Kd.R_elem h z52 (i : Int) (Int.natCast_nonneg i) (by omega)
  obtain rfl := k52_openM hM
  subst hm
  rw [Int.toNat_natCast] at hcc hfr
  exact ⟨⟨hcc 0 _ rfl, hcc 1 _ rfl, hcc 2 _ rfl⟩, hfr 0, hfr 1, hfr 2⟩
theorem putR {e base g n cap : Nat} {ok : Nat → Prop} {W : World} {xs : List S52} (h : Kd.R k52 e W base ok (.slice (some ⟨g, 0, none⟩) n cap) xs) (i : Nat) (h1 : i < n) (m : S52) :
    Kd.R k52 e (((W.setCell ⟨g, i * 3, none⟩ (.int .i64 m.f0)).setCell ⟨g, i * 3 + 1, none⟩ (.int .i64 m.f1)).setCell ⟨g, i * 3 + 2, none⟩ (.int .i64 m.f2)) base ok (.slice (some ⟨g, 0, none⟩) n cap) (xs.set i m) ∧
    W.grownBy (((W.setCell ⟨g, i * 3, none⟩ (.int .i64 m.f0)).setCell ⟨g, i * 3 + 1, none⟩ (.int .i64 m.f1)).setCell ⟨g, i * 3 + 2, none⟩ (.int .i64 m.f2)) (some g) := by
  obtain ⟨ce, hcl, hM, hcc, hfr⟩ := Kd.R_elem h z52 (i : Int) (Int.natCast_nonneg i) (by omega)
  obtain rfl := k52_openM hM
  have := Kd.R_seg h (i : Int) (Int.natCast_nonneg i) (by omega) (seg := [.int .i64 m.f0, .int .i64 m.f1, .int .i64 m.f2]) (j := 0) hcl hcc (show 3 ≤ 3 from by decide) (x' := m) (k52_mkM _ _ _ m) (fun _ hk => hk)
  rw [Int.toNat_natCast] at this
  exact this
theorem put4 {e base g n cap : Nat} {ok : Nat → Prop} {W : World} {xs : List S50} (h : Kd.R k50 e W base ok (.slice (some ⟨g, 0, none⟩) n cap) xs) (i : Int) (h0 : 0 ≤ i) (h1 : i < n) (m : S50) (hm : rd_T50 xs i = m) (x : Bool) :
    Kd.R k50 e (W.setCell ⟨g, i.toNat * 5 + 4, none⟩ (.bool x)) base ok (.slice (some ⟨g, 0, none⟩) n cap) (xs.set i.toNat ⟨m.f0, m.f1, m.f2, m.f3, x⟩) ∧ W.grownBy (W.setCell ⟨g, i.toNat * 5 + 4, none⟩ (.bool x)) (some g) := by
  obtain ⟨ce, hcl, hM, hcc, hfr⟩ := Kd.R_elem h z50 i h0 h1
  obtain rfl := k50_openM hM
  change rd_T50 xs i = m at hm
  have := Kd.R_seg h i h0 h1 (seg := [.bool x]) (j := 4) hcl hcc (show 5 ≤ 5 from by decide) (x' := (⟨m.f0, m.f1, m.f2, m.f3, x⟩ : S50)) (by rw [← hm]; exact k50_mkM _ _ _ _) (fun _ hk => hk)
  exact this
theorem LapSt.lapse {w W : World} {gO gZ g4 c4 n : Nat} {day ans app : Int} {v3 v5 : Value} {hs : List Int} {ms : List S50} {l : List S52} (h : LapSt w W gO gZ day ans app v3 (.slice (some ⟨g4, 0, none⟩) n c4) v5 hs ms l) (i : Nat) (hi : i < n) (hn : ms.length = n) (m : S50) (hm : rd_T50 ms (i : Int) = m) :
    LapSt w (((W.setCell ⟨g4, i * 5 + 4, none⟩ (.bool (m.f1 == 2))).setCell ⟨g4, i * 5 + 1, none⟩ (.int .i64 6)).setCell ⟨g4, i * 5 + 2, none⟩ (.int .i64 0)) gO gZ day ans app v3 (.slice (some ⟨g4, 0, none⟩) n c4) v5 hs (ms.set i (lapM2 day m)) l := by
  have p0 : 0 ≤ (i : Int) := Int.natCast_nonneg i
  have q0 : (i : Int) < (n : Int) := by omega
  have q2 : (i : Int) < (ms.length : Int) := by omega
  have a1 := put4 h.r4 (i : Int) p0 q0 m hm (m.f1 == 2)
  have b1 := h.setM a1.2 a1.1
  have a2 := put1 b1.r4 (i : Int) p0 q0 _ (rd_set ms (i : Int) _ p0 q2) 6
  rw [List.set_set] at a2
  have b2 := b1.setM a2.2 a2.1
  have a3 := put2 b2.r4 (i : Int) p0 q0 _ (rd_set ms (i : Int) _ p0 q2) 0
  rw [List.set_set] at a3
  have b3 := b2.setM a3.2 a3.1
  exact b3
def lapWorld (w : World) (d a p : Int) (v u : Value) : World :=
  (w.alloc (.cells #[.int .i64 d, .int .i64 a, .int .i64 p, v, u] 30 (0, 0))).alloc (.cells #[.int .i64 0, .int .i64 0, .int .i64 0, .slice none 0 0, .slice none 0 0] 30 (0, 0))
theorem lapW_below (w : World) (d a p : Int) (v u : Value) : Below w.heap.size w (lapWorld w d a p v u) := by
  unfold lapWorld
  exact below_alloc (below_alloc (Below.refl _ _) _) _
theorem lapW_res (w : World) (d a p : Int) (v u : Value) : (lapWorld w d a p v u).heap[w.heap.size + 1]? = some (.cells #[.int .i64 0, .int .i64 0, .int .i64 0, .slice none 0 0, .slice none 0 0] 30 (0, 0)) := by
  have := blk_new (w.alloc (.cells #[.int .i64 d, .int .i64 a, .int .i64 p, v, u] 30 (0, 0))) (.cells #[.int .i64 0, .int .i64 0, .int .i64 0, .slice none 0 0, .slice none 0 0] 30 (0, 0))
  simpa [lapWorld] using this
set_option maxHeartbeats 16000000 in
set_option maxRecDepth 100000 in
theorem insolvencyref33_lapsed.calls (k : Nat) (a0_0 : Int) (a0_1 : Int) (a0_2 : Int) (A0_3 : Option Addr) (c0_3 : Nat) (l0_3 : List Int) (A0_4 : Option Addr) (c0_4 : Nat) (l0_4 : List S50) (a1 : Int) (r1 : Int) (r2 : Int) (r3 : Int) (r4 : List Int) (r5 : List S50) (r6 : List S52) (w : World) (hr0_3 : Kd.C (Kd.int .i64) w A0_3 l0_3.length l0_3) (hc0_3 : l0_3.length ≤ c0_3) (hr0_4 : Kd.C k50 w A0_4 l0_4.length l0_4) (hc0_4 : l0_4.length ≤ c0_4) (h : insolvencyref33_lapsed.f k a0_0 a0_1 a0_2 l0_3 l0_4 a1 = some (r1, r2, r3, r4, r5, r6)) :
    Calls Try.prog 45 #[.agg #[.int .i64 a0_0, .int .i64 a0_1, .int .i64 a0_2, .slice A0_3 l0_3.length c0_3, .slice A0_4 l0_4.length c0_4], .int .i64 a1] w fun e w' => ∃ v3_ v4_ v5_ : Value, e = .returned (.tuple #[.agg #[.int .i64 r1, .int .i64 r2, .int .i64 r3, v3_, v4_], v5_]) ∧ Kd.R (Kd.int .i64) 3 w' w.heap.size (fun _ => True) v3_ r4 ∧ Kd.R k50 50 w' w.heap.size (fun _ => True) v4_ r5 ∧ Kd.R k52 52 w' w.heap.size (fun _ => True) v5_ r6 ∧ Below w.heap.size w w' := by
  have hu := Try.underlying30
  have hu2 := Try.underlying50
  have hu3 := Try.underlying52
  have hu4 := Try.underlying28
  have hu5 := Try.underlying32
  unfold insolvencyref33_lapsed.f at h
  by_cases hl : l0_3.length < 1000000 ∧ l0_4.length < 1000000
  case neg => rw [if_neg hl] at h; cases h
  rw [if_pos hl] at h
  have h := Option.some.inj h
  injection h with h1 h
  injection h with h2 h
  injection h with h3 h
  injection h with h4 h
  injection h with h5 h6
  subst h1 h2 h3 h4
  have I0 : (lapGo a1 l0_4.length l0_4 [] 0).1 = r5 ∧ (lapGo a1 l0_4.length l0_4 [] 0).2 = r6 := ⟨h5, h6⟩
  clear h5 h6
  have B0 := lapW_below w a0_0 a0_1 a0_2 (.slice A0_3 l0_3.length c0_3) (.slice A0_4 l0_4.length c0_4)
  have K2 := lapW_res w a0_0 a0_1 a0_2 (.slice A0_3 l0_3.length c0_3) (.slice A0_4 l0_4.length c0_4)
  have hcp := insolvencyref33_copied.calls a0_0 a0_1 a0_2 A0_3 c0_3 l0_3 A0_4 c0_4 l0_4 a0_0 a0_1 a0_2 l0_3 l0_4 _ (Kd.C_below hr0_3 B0) hc0_3 (Kd.C_below hr0_4 B0) hc0_4 (by
    unfold insolvencyref33_copied.f
    rw [Option.bind_some, if_pos (by simp; omega), Option.bind_some, if_pos (by simp; omega), List.nil_append, List.nil_append])
  have R0 := Aside0.mk I0
  have hms := hl.2
  clear hr0_3 hr0_4 I0 hl
  go_enter Try.func45, Try.ntmps45
  go_wp2_with (go_at_call 60; change Calls _ _ _ (lapWorld w a0_0 a0_1 a0_2 (.slice A0_3 l0_3.length c0_3) (.slice A0_4 l0_4.length c0_4)) _; refine hcp.mono ?_; rintro e w1 ⟨v3, v4, rfl, h3, h4, hb⟩; have K3 := blk_below K2 hb; obtain ⟨A3, c3, rfl⟩ := Kd.R_slice h3; obtain ⟨A4, c4, rfl⟩ := Kd.R_slice h4)
  change Code.wp _ _ _ _ (w1.alloc (.cells #[.int .i64 a1, .int .i64 a0_1, .int .i64 a0_2, .slice A3 l0_3.length c3, .slice A4 l0_4.length c4] 30 (0, 0)))
  have S0 : LapSt w (w1.alloc (.cells #[.int .i64 a1, .int .i64 a0_1, .int .i64 a0_2, .slice A3 l0_3.length c3, .slice A4 l0_4.length c4] 30 (0, 0))) w1.heap.size (w.heap.size + 1) a1 a0_1 a0_2 (.slice A3 l0_3.length c3) (.slice A4 l0_4.length c4) (.slice none 0 0) l0_3 l0_4 [] :=
    ⟨below_alloc (below_step B0 hb) _, blk_new _ _, blk_alloc K3 _, Kd.R_alloc (Kd.R_lower h3 B0.size) _, Kd.R_alloc (Kd.R_lower h4 B0.size) _, Kd.R_nil _ _ _ _ _⟩
  have nZ : w1.heap.size ≠ w.heap.size + 1 := Nat.ne_of_gt (blk_lt K3)
  have eZ : w.heap.size ≤ w.heap.size + 1 := Nat.le_succ _
  generalize w1.alloc (.cells #[.int .i64 a1, .int .i64 a0_1, .int .i64 a0_2, .slice A3 l0_3.length c3, .slice A4 l0_4.length c4] 30 (0, 0)) = W2 at *
  generalize w1.heap.size = gO at *
  generalize w.heap.size + 1 = gZ at *
  have SS := Aside0.mk S0
  clear hcp B0 K2 K3 h3 h4 hb S0 w1
  go_loopg [7, 8] (l0_4.length) (fun kx s7 s8 wr => ∃ (i : Nat) (ms : List S50) (l : List S52), s8 = .int .i64 i ∧ i ≤ l0_4.length ∧ l0_4.length - i ≤ kx ∧ ms.length = l0_4.length ∧ l.length ≤ i ∧
    Aside0 (LapSt w wr gO gZ a1 a0_1 a0_2 (.slice A3 l0_3.length c3) (.slice A4 l0_4.length c4) s7 l0_3 ms l) ∧ Aside0 ((lapGo a1 (l0_4.length - i) ms l i).1 = r5 ∧ (lapGo a1 (l0_4.length - i) ms l i).2 = r6))
  case atStart => exact ⟨0, l0_4, [], rfl, Nat.zero_le _, by omega, rfl, Nat.le_refl _, SS, R0⟩
  case round =>
    obtain ⟨i, ms, l, rfl, hi, hk, hml, hll, S, I⟩ := hrel
    clear R0 SS
    obtain ⟨A5, c5, rfl⟩ := Kd.R_slice S.out.r5
    obtain ⟨o0, o1, o2, o3, o4⟩ := cells5 ⟨S.out.o⟩
    by_cases hlt : i < l0_4.length
    · obtain ⟨k1, rfl⟩ : ∃ m, gk = m + 1 := ⟨gk - 1, by omega⟩
      have hd : decide ((i : Int) < (l0_4.length : Int)) = true := decide_eq_true (by omega)
      have p0 : 0 ≤ (i : Int) := Int.natCast_nonneg i
      have q0 : (i : Int) < ((l0_4.length : Nat) : Int) := by omega
      have HW := Aside0.mk (show wrap64 ((i : Int) + 1) = ((i + 1 : Nat) : Int) by unfold wrap64; omega)
      obtain ⟨g4, c4', eq4, -, hg4, -⟩ := Kd.R_form S.out.r4 (by omega)
      injection eq4 with eA eB eC
      subst eA
      clear eB eC c4'
      have I2 := I.out
      rw [show l0_4.length - i = (l0_4.length - (i + 1)) + 1 by omega, lapGo] at I2
      generalize hm : rd_T50 ms (i : Int) = m at *
      obtain ⟨⟨m0, m1, m2, m3, m4⟩, f1, f2, f4⟩ := elm5 S.out.r4 (i : Int) p0 q0 m hm
      rw [Int.toNat_natCast] at m0 m1 m2 m3 m4 f1 f2 f4
      have p1 := eq_true p0
      have q1 := eq_true q0
      have hru := insolvencyref33_runs.calls m.f0 m.f1 m.f2 m.f3 m.f4 (m.f1 == 2 || m.f1 == 4) wr (by
        unfold insolvencyref33_runs.f
        by_cases h2 : m.f1 = 2
        · simp [h2]
        · rw [if_neg h2]
          simp [h2])
      clear I
      by_cases hrun : (m.f1 == 2 || m.f1 == 4) = true
      · rw [hrun] at hru
        by_cases hdue : m.f2 < a1
        · have hd2 : decide (m.f2 ≥ a1) = false := decide_eq_false (by omega)
          have hd3 : decide (a1 ≤ m.f2) = false := decide_eq_false (by omega)
          have hl2 : lapses2 a1 m = true := by unfold lapses2; rw [hrun, decide_eq_true hdue]; rfl
          rw [if_pos hl2] at I2
          have I3 := Aside0.mk I2
          clear I2
          go_upto_region 9 with (go_at_call 43; refine hru.mono ?_; rintro e w2 ⟨rfl, hb⟩; have S2 := S.out.below hb; have m2' := pw_cell_below hb m2)
          clear S hru o0 o1 o2 o3 o4 m0 m1 m2 m3 m4 f1 f2 f4 m2' hd hd2 hd3
          obtain ⟨⟨m0, m1, m2, m3, m4⟩, f1, f2, f4⟩ := elm5 S2.r4 (i : Int) p0 q0 m hm
          rw [Int.toNat_natCast] at m0 m1 m2 m3 m4 f1 f2 f4
          have S3 := Aside0.mk S2
          clear S2
          go_region_held3 (fun w_ => w_.cell? ⟨g4, i * 5, none⟩ = some (.int .i64 m.f0) ∧ w_.cell? ⟨g4, i * 5 + 2, none⟩ = some (.int .i64 m.f2) ∧ w_.cell? ⟨g4, i * 5 + 3, none⟩ = some (.int .i64 m.f3)) (first | exact ⟨m0, m2, m3⟩ | go_keep) (fail)
          change Exit.then _ _ _ _ (w2.alloc (.cells #[.int .i64 m.f0, .int .i64 (IntKind.i64.wrap (m.f2 + 1)), .int .i64 m.f3] 52 (0, 0))).drew
          rw [i64_w]
          have hlt4 := World.block_lt_of_cell? w2 _ m0
          have S4 := S3.out.below (below_drew1 (below_alloc (Below.refl w2.heap.size w2) (.cells #[.int .i64 m.f0, .int .i64 (wrap64 (m.f2 + 1)), .int .i64 m.f3] 52 (0, 0))))
          have KR := blk_drew (blk_new w2 (.cells #[.int .i64 m.f0, .int .i64 (wrap64 (m.f2 + 1)), .int .i64 m.f3] 52 (0, 0)))
          have nR : w2.heap.size ≠ g4 := Nat.ne_of_gt hlt4
          have nRZ : w2.heap.size ≠ gZ := Nat.ne_of_gt (blk_lt S3.out.z)
          have nRO : w2.heap.size ≠ gO := Nat.ne_of_gt (blk_lt S3.out.o)
          have nR5 : some w2.heap.size ≠ (Value.slice A5 l.length c5).ownBlock := fun he => by have := Kd.R_lt S3.out.r5 _ he.symm; omega
          generalize hdu : wrap64 (m.f2 + 1) = due1 at *
          generalize (w2.alloc (.cells #[.int .i64 m.f0, .int .i64 due1, .int .i64 m.f3] 52 (0, 0))).drew = W3 at *
          generalize w2.heap.size = gR at *
          clear S3 m0 m1 m2 m3 m4 f1 f2 f4 hlt4
          obtain ⟨⟨m0, m1, m2, m3, m4⟩, f1, f2, f4⟩ := elm5 S4.r4 (i : Int) p0 q0 m hm
          rw [Int.toNat_natCast] at m0 m1 m2 m3 m4 f1 f2 f4
          have S5 := Aside0.mk (S4.lapse i hlt hml m hm)
          have KR2 := Aside0.mk (blk_far (p := ⟨g4, i * 5 + 2, none⟩) (blk_far (p := ⟨g4, i * 5 + 1, none⟩) (blk_far (p := ⟨g4, i * 5 + 4, none⟩) KR nR (.bool (m.f1 == 2))) nR (.int .i64 6)) nR (.int .i64 0))
          clear S4 KR
          go_upto_block 2 with (fail)
          generalize ((W3.setCell ⟨g4, i * 5 + 4, none⟩ (.bool (m.f1 == 2))).setCell ⟨g4, i * 5 + 1, none⟩ (.int .i64 6)).setCell ⟨g4, i * 5 + 2, none⟩ (.int .i64 0) = W4 at *
          clear m0 m1 m2 m3 m4 f1 f2 f4 p1 q1 hlt hrun hl2 hdue
          obtain ⟨P, hP⟩ : ∃ P, posR l ⟨m.f0, due1, m.f3⟩ l.length = P := ⟨_, rfl⟩
          have hPl : P ≤ l.length := by rw [← hP]; exact posR_le _ _ _
          have HP := Aside0.mk hP
          clear hP
          go_cut [11] (fun s11 wc => s11 = .int .i64 (P : Int) ∧ Aside0 (LapSt w wc gO gZ a1 a0_1 a0_2 (.slice A3 l0_3.length c3) (.slice (some ⟨g4, 0, none⟩) l0_4.length c4) (.slice A5 l.length c5) l0_3 (ms.set i (lapM2 a1 m)) l) ∧ Aside0 (wc.heap[gR]? = some (.cells #[.int .i64 m.f0, .int .i64 due1, .int .i64 m.f3] 52 (0, 0))))
          case first =>
            go_wp2_with (fail)
            have hlb : l.length < 1000000 := by omega
            clear I3 HW hml hi hk hll nR nRZ nRO nR5 nZ eZ hm hdu p0 q0
            go_loopg [11] (l.length) (fun ky s11 wr1 => ∃ p : Nat, s11 = .int .i64 (p : Int) ∧ p ≤ l.length ∧ p ≤ ky ∧ Aside0 (posR l ⟨m.f0, due1, m.f3⟩ p = P) ∧ Aside0 (LapSt w wr1 gO gZ a1 a0_1 a0_2 (.slice A3 l0_3.length c3) (.slice (some ⟨g4, 0, none⟩) l0_4.length c4) (.slice A5 l.length c5) l0_3 (ms.set i (lapM2 a1 m)) l) ∧ Aside0 (wr1.heap[gR]? = some (.cells #[.int .i64 m.f0, .int .i64 due1, .int .i64 m.f3] 52 (0, 0))))
            case atStart => exact ⟨l.length, rfl, Nat.le_refl _, Nat.le_refl _, HP, S5, KR2⟩
            case round =>
              obtain ⟨p, rfl, hp, hky, I4, S6, KR6⟩ := hrel
              clear S5 KR2 HP
              cases p with
              | zero =>
                have e0 := I4.out
                rw [posR] at e0
                subst e0
                clear I4
                have h0 : decide ((0 : Int) < 0) = false := rfl
                go_wp2_with (fail)
                go_quiet (fail)
                go_wp2
                go_meet
                exact ⟨rfl, ⟨S6.out.below (pw_below_drewN (Below.refl _ _) _)⟩, ⟨blk_drewN KR6.out _⟩⟩
              | succ p =>
                obtain ⟨g5, c5', eq5, -, hg5, -⟩ := Kd.R_form S6.out.r5 (by omega)
                injection eq5 with eA5 eB5 eC5
                subst eA5
                clear eB5 eC5 c5'
                have hp1 : p < l.length := by omega
                have I5 := I4.out
                rw [posR] at I5
                generalize hx : rd_T52 l (p : Int) = x at *
                obtain ⟨⟨y0, y1, y2⟩, -⟩ := elmR S6.out.r5 p hp1 x hx
                obtain ⟨b0, b1, b2⟩ := cells3 KR6
                have hq1 : (((p + 1 : Nat) : Int)) = (p : Int) + 1 := by omega
                generalize (((p + 1 : Nat) : Int)) = q at *
                have HQ := Aside0.mk hq1
                have h0 : decide (0 < q) = true := decide_eq_true (by omega)
                have e1 : IntKind.i64.wrap (q - 1) = (p : Int) := by rw [i64_w]; unfold wrap64; omega
                have E1 := Aside0.mk e1
                clear e1 hq1
                have u1 : (0 ≤ (p : Int)) = True := eq_true (by omega)
                have u2 : ((p : Int) < (l.length : Int)) = True := eq_true (by omega)
                clear I4
                obtain ⟨k2, rfl⟩ : ∃ m, gk = m + 1 := ⟨gk - 1, by omega⟩
                have hq0 : q = (p : Int) + 1 := HQ.out
                have eG : gtR x ⟨m.f0, due1, m.f3⟩ = (decide (due1 < x.f1) || (x.f1 == due1 && decide (m.f0 < x.f0))) := rfl
                rw [eG] at I5
                clear eG hq0
                by_cases g1 : due1 < x.f1
                · have d1 : decide (due1 < x.f1) = true := decide_eq_true g1
                  rw [d1, Bool.true_or, if_pos rfl] at I5
                  have I6 := Aside0.mk I5
                  have e1 := E1.out
                  clear I5 E1 g1
                  go_wp2_with (fail)
                  go_quiet (fail)
                  go_wp2
                  go_roundg k2
                  case measure => omega
                  case rel => exact ⟨p, by first | rfl | (simp only [e1]; done) | (rw [← i64_w, e1]; done) | (simp; done), by omega, by omega, I6, ⟨S6.out.below (pw_below_drewN (Below.refl _ _) _)⟩, ⟨blk_drewN KR6.out _⟩⟩
                have d1 : decide (due1 < x.f1) = false := decide_eq_false g1
                rw [d1, Bool.false_or] at I5
                by_cases g2 : x.f1 = due1
                · have d2 : (x.f1 == due1) = true := by simpa using g2
                  rw [d2, Bool.true_and] at I5
                  by_cases g3 : m.f0 < x.f0
                  · have d3 : decide (m.f0 < x.f0) = true := decide_eq_true g3
                    rw [d3, if_pos rfl] at I5
                    have I6 := Aside0.mk I5
                    have e1 := E1.out
                    clear I5 E1 g1 g2 g3
                    go_wp2_with (fail)
                    go_quiet (fail)
                    go_wp2
                    go_roundg k2
                    case measure => omega
                    case rel => exact ⟨p, by first | rfl | (simp only [e1]; done) | (rw [← i64_w, e1]; done) | (simp; done), by omega, by omega, I6, ⟨S6.out.below (pw_below_drewN (Below.refl _ _) _)⟩, ⟨blk_drewN KR6.out _⟩⟩
                  · have d3 : decide (m.f0 < x.f0) = false := decide_eq_false g3
                    rw [d3, if_neg (by decide)] at I5
                    have e1 := E1.out
                    have hP := I5
                    clear I5 E1 g1 g2 g3
                    go_wp2_with (fail)
                    go_quiet (fail)
                    go_wp2
                    go_meet
                    exact ⟨by rw [← hP, HQ.out]; rfl, ⟨S6.out.below (pw_below_drewN (Below.refl _ _) _)⟩, ⟨blk_drewN KR6.out _⟩⟩
                · have d2 : (x.f1 == due1) = false := by simpa using g2
                  rw [d2, Bool.false_and, if_neg (by decide)] at I5
                  have e1 := E1.out
                  have hP := I5
                  clear I5 E1 g1 g2
                  go_wp2_with (fail)
                  go_quiet (fail)
                  go_wp2
                  go_meet
                  exact ⟨by rw [← hP, HQ.out]; rfl, ⟨S6.out.below (pw_below_drewN (Below.refl _ _) _)⟩, ⟨blk_drewN KR6.out _⟩⟩
          case rest =>
            obtain ⟨rfl, S6, KR6⟩ := hcut
            clear S5 KR2
            have hlb : l.length < 1000000 := by omega
            have e9 : wrap64 (((l.length + 1 : Nat) : Int) - 1) = (l.length : Int) := by unfold wrap64; omega
            have e9' : wrap64 ((l.length : Int) + 1 - 1) = (l.length : Int) := by unfold wrap64; omega
            have E9 := Aside0.mk e9
            clear e9 e9'
            go_upto_block 4 with ((with_reducible refine gate_builtin (b := .append) (xs := #[.tmp 108, .tmp 110]) rfl ?_); at_builtin; refine Kd.R_append k52 (w0 := w) w.heap.size rfl (.tmp 108) (.tmp 110) 32 52 (.agg #[(.int .i64 0), (.int .i64 0), (.int .i64 0)]) 24 rfl Try.underlying32 info52 rfl (by decide) (by omega) _ l (⟨0, 0, 0⟩ : S52) [.int .i64 0, .int .i64 0, .int .i64 0] (fun _ => True) (fun _ => False) rfl rfl ?aP (fun _ hk => hk.elim) ?aF ?aO ?aB ?aS ?aL ?_; (case aP => exact k52_mkM _ _ _ (⟨0, 0, 0⟩ : S52)); (case aB => exact S6.out.b); (case aF => exact (fun _ _ => trivial)); (case aO => exact S6.out.r5); (case aS => exact S6.out.b.size); (case aL => omega); intro v6 w6 ho6 hb6 hgr hat; obtain ⟨A6, c6, rfl⟩ := Kd.R_slice ho6; change World.grownBy _ w6 (Value.slice A5 l.length c5).ownBlock at hgr)
            have S7 := S6.out.setR hgr (Kd.R_mono ho6 (fun _ _ => trivial))
            have KR7 := blk_grown KR6.out hgr nR5
            have nR6' : some gR ≠ (Value.slice A6 (l ++ [(⟨0, 0, 0⟩ : S52)]).length c6).ownBlock := by
              rcases hat with e | ⟨b, e, hb⟩
              · exact fun he => nR5 (he.trans e)
              · rw [e]
                intro he
                have := blk_lt KR6.out
                injection he with he
                omega
            clear S6 KR6 hgr hat ho6 hb6
            have hln : (l ++ [(⟨0, 0, 0⟩ : S52)]).length = l.length + 1 := by simp
            rw [hln] at S7
            obtain ⟨g6, c6', eq6, -, hg6, -⟩ := Kd.R_form S7.r5 (by omega)
            injection eq6 with eA6 eB6 eC6
            subst eA6
            clear eB6 eC6 c6'
            have nR6 : gR ≠ g6 := fun he => nR6' (by rw [he]; simp [Value.ownBlock])
            clear nR6'
            obtain ⟨SH, hSH⟩ : ∃ SH, shR (l ++ [⟨0, 0, 0⟩]) P l.length = SH := ⟨_, rfl⟩
            have HINS := Aside0.mk (show SH.set P ⟨m.f0, due1, m.f3⟩ = insR l (lapR2 m) by
              rw [← hSH]
              unfold insR lapR2
              rw [hdu, HP.out])
            have HS := Aside0.mk hSH
            have S8 := Aside0.mk S7
            have KR8 := Aside0.mk KR7
            clear hSH S7 KR7
            generalize (l ++ [(⟨0, 0, 0⟩ : S52)]) = L0 at *
            go_wp2_with (fail)
            go_loopg [12] (l.length) (fun ky s12 wr2 => ∃ (j : Nat) (L : List S52), s12 = .int .i64 (j : Int) ∧ j ≤ l.length ∧ j ≤ ky ∧ L.length = l.length + 1 ∧ Aside0 (shR L P j = SH) ∧ Aside0 (LapSt w wr2 gO gZ a1 a0_1 a0_2 (.slice A3 l0_3.length c3) (.slice (some ⟨g4, 0, none⟩) l0_4.length c4) (.slice (some ⟨g6, 0, none⟩) (l.length + 1) c6) l0_3 (ms.set i (lapM2 a1 m)) L) ∧ Aside0 (wr2.heap[gR]? = some (.cells #[.int .i64 m.f0, .int .i64 due1, .int .i64 m.f3] 52 (0, 0))))
            case atStart => exact ⟨l.length, L0, rfl, Nat.le_refl _, Nat.le_refl _, hln, HS, S8, KR8⟩
            case round =>
              obtain ⟨j, L, rfl, hj, hky, hL, I4, S9, KR9⟩ := hrel
              clear S8 KR8 HS hln L0
              by_cases hPj : P < j
              · obtain ⟨j, rfl⟩ : ∃ j', j = j' + 1 := ⟨j - 1, by omega⟩
                have I5 := I4.out
                rw [shR, if_pos hPj] at I5
                have I6 := Aside0.mk I5
                clear I5 I4
                generalize hx : rd_T52 L (j : Int) = x at *
                obtain ⟨⟨y0, y1, y2⟩, -⟩ := elmR S9.out.r5 j (by omega) x hx
                obtain ⟨⟨t0, t1, t2⟩, f0, f1, f2⟩ := elmR S9.out.r5 (j + 1) (by omega) _ rfl
                have hp := putR S9.out.r5 (j + 1) (by omega) x
                obtain ⟨k2, rfl⟩ : ∃ m, gk = m + 1 := ⟨gk - 1, by omega⟩
                have hq1 : (((j + 1 : Nat) : Int)) = (j : Int) + 1 := by omega
                have hqt : (((j + 1 : Nat) : Int)).toNat = j + 1 := Int.toNat_natCast _
                generalize (((j + 1 : Nat) : Int)) = q at *
                have h0 : decide ((P : Int) < q) = true := decide_eq_true (by omega)
                have u1 : (0 ≤ (j : Int)) = True := eq_true (by omega)
                have u2 : ((j : Int) < (l.length : Int) + 1) = True := eq_true (by omega)
                have u2' : ((j : Int) < ((l.length + 1 : Nat) : Int)) = True := eq_true (by omega)
                have u3 : (0 ≤ q) = True := eq_true (by omega)
                have u4 : (q < (l.length : Int) + 1) = True := eq_true (by omega)
                have u4' : (q < ((l.length + 1 : Nat) : Int)) = True := eq_true (by omega)
                have hjb : j < 1000000 := by omega
                have e1 : wrap64 (q - 1) = (j : Int) := by unfold wrap64; omega
                have HQ := Aside0.mk hq1
                have S10 := S9.out.setR hp.2 hp.1
                have KR10 := blk_far (p := ⟨g6, (j + 1) * 3 + 2, none⟩) (blk_far (p := ⟨g6, (j + 1) * 3 + 1, none⟩) (blk_far (p := ⟨g6, (j + 1) * 3, none⟩) KR9.out nR6 (.int .i64 x.f0)) nR6 (.int .i64 x.f1)) nR6 (.int .i64 x.f2)
                have HS10 := Aside0.mk S10
                have HK10 := Aside0.mk KR10
                clear hq1 hi hk hll hPl hml hPj S10 KR10 hp S9 KR9
                go_wp2
                have hqj : q - 1 = (j : Int) := by have := HQ.out; omega
                go_roundg k2
                case measure => omega
                case rel => exact ⟨j, L.set (j + 1) x, by first | rw [hqj] | (rw [e1]; done) | (simp only [e1]; done), by omega, by omega, by rw [List.length_set]; exact hL, I6, HS10, HK10⟩
              · have hd9 : decide ((P : Int) < (j : Int)) = false := decide_eq_false (by omega)
                have hd9n : decide (P < j) = false := decide_eq_false hPj
                have I5 : L = SH := by
                  have := I4.out
                  cases j with
                  | zero => exact this
                  | succ j => rw [shR, if_neg hPj] at this; exact this
                obtain rfl := I5
                obtain ⟨b0, b1, b2⟩ := cells3 KR9
                obtain ⟨⟨t0, t1, t2⟩, f0, f1, f2⟩ := elmR S9.out.r5 P (by omega) _ rfl
                have hp := putR S9.out.r5 P (by omega) ⟨m.f0, due1, m.f3⟩
                have u3 : (0 ≤ (P : Int)) = True := eq_true (by omega)
                have u4 : ((P : Int) < (l.length : Int) + 1) = True := eq_true (by omega)
                have u4' : ((P : Int) < ((l.length + 1 : Nat) : Int)) = True := eq_true (by omega)
                have S10 := Aside0.mk (S9.out.setR hp.2 hp.1)
                have hsl : (ms.set i (lapM2 a1 m)).length = l0_4.length := by rw [List.length_set]; exact hml
                clear hp I4 S9 hPj
                go_wp2
                go_roundg k1
                case measure => omega
                case rel => exact ⟨i + 1, ms.set i (lapM2 a1 m), insR l (lapR2 m), by first | rw [HW.out] | (simp only [HW.out]; done) | go_num, by omega, by omega, hsl, by rw [insR_length]; omega, ⟨by have := S10.out; rw [HINS.out] at this; exact this⟩, I3⟩
        · have hd2 : decide (m.f2 ≥ a1) = true := decide_eq_true (by omega)
          have hd3 : decide (a1 ≤ m.f2) = true := decide_eq_true (by omega)
          have hl2 : lapses2 a1 m = false := by unfold lapses2; rw [decide_eq_false hdue, Bool.and_false]
          rw [hl2, if_neg (by decide)] at I2
          have I3 := Aside0.mk I2
          clear I2 p0 q0
          go_wp2_with (go_at_call 43; refine hru.mono ?_; rintro e w2 ⟨rfl, hb⟩; have S2 := S.out.below hb; have m2' := pw_cell_below hb m2)
          go_roundg k1
          case measure => omega
          case rel => exact ⟨i + 1, ms, l, by first | rw [HW.out] | (simp only [HW.out]; done) | go_num, by omega, by omega, hml, by omega, ⟨S2⟩, I3⟩
      · rw [Bool.not_eq_true] at hrun
        rw [hrun] at hru
        have hl2 : lapses2 a1 m = false := by unfold lapses2; rw [hrun, Bool.false_and]
        rw [hl2, if_neg (by decide)] at I2
        have I3 := Aside0.mk I2
        clear I2 p0 q0
        go_wp2_with (go_at_call 43; refine hru.mono ?_; rintro e w2 ⟨rfl, hb⟩; have S2 := S.out.below hb)
        go_roundg k1
        case measure => omega
        case rel => exact ⟨i + 1, ms, l, by first | rw [HW.out] | (simp only [HW.out]; done) | go_num, by omega, by omega, hml, by omega, ⟨S2⟩, I3⟩
    · obtain rfl : i = l0_4.length := by omega
      have I2 := I.out
      rw [Nat.sub_self, lapGo] at I2
      obtain ⟨e5, e6⟩ := I2
      subst e5 e6
      have hd : decide ((l0_4.length : Int) < (l0_4.length : Int)) = false := decide_eq_false (by omega)
      obtain ⟨z0, z1, z2, z3, z4⟩ := cells5 ⟨S.out.z⟩
      obtain ⟨x0, x1, x2, x3, x4⟩ := frz5 ⟨S.out.z⟩
      clear I
      go_wp2
      refine bodyPost_ret (results_ct rfl _ _ gZ 30 _ (0, 0) _ rfl (five_blk S.out.z _ _ _ _ _) Try.underlying30 rfl (by kernel_rfl)) rfl ?_
      rw [hml] at *
      exact ⟨_, _, _, rfl, five_R S.out.r3 S.out.z (by decide) _ _ _ _ _, five_R S.out.r4 S.out.z (by decide) _ _ _ _ _, five_R S.out.r5 S.out.z (by decide) _ _ _ _ _, five_below S.out.b eZ _ _ _ _ _⟩
end Go.Proofs.Ytpfiecjacpbhkaa.D

namespace Go.Proofs.Ytpfiecjacpbhkaa.D
open Go.RowKit Go.Proofs.YtpfiecjacpbhkaaW.PrintWords Go.Proofs.YtpfiecjacpbhkaaW.PrintLast Go.Proofs.YtpfiecjacpbhkaaW.PrintMore
attribute [local go_sem] max2_int min2_int max_two min_two max_three min_three max_four min_four
set_option linter.unusedVariables false
set_option linter.unusedSimpArgs false
def insolvencyref33_Advance.f (k : Nat) (a0_0 : Int) (a0_1 : Int) (a0_2 : Int) (l0_3 : List Int) (l0_4 : List (S50)) (a1 : Int) : Option (Int × Int × Int × List Int × (List (S50)) × (List (S52)) × Int) := (insolvencyref33_CheckDocket.f k a0_0 a0_1 a0_2 l0_3 l0_4).bind fun t482 => (if t482 = 0 then ((insolvencyref33_day.f a1).bind fun t483 => (if t483 = true then (if a1 < a0_0 then (some (0, 0, 0, ([] : List Int), ([] : List (S50)), ([] : List (S52)), 15)) else ((insolvencyref33_lapsed.f k a0_0 a0_1 a0_2 l0_3 l0_4 a1).bind fun bt484 => (some (bt484.1, bt484.2.1, bt484.2.2.1, bt484.2.2.2.1, bt484.2.2.2.2.1, bt484.2.2.2.2.2, 0)))) else (some (0, 0, 0, ([] : List Int), ([] : List (S50)), ([] : List (S52)), 1)))) else (some (0, 0, 0, ([] : List Int), ([] : List (S50)), ([] : List (S52)), t482)))
theorem insolvencyref33_Advance.mono : ∀ a0 a1 a2 a3 a4 a5 k, LeO (insolvencyref33_Advance.f k a0 a1 a2 a3 a4 a5) (insolvencyref33_Advance.f (k + 1) a0 a1 a2 a3 a4 a5) := by
 intro a0 a1 a2 a3 a4 a5 k
 unfold insolvencyref33_Advance.f
 repeat' first
   | (with_reducible exact insolvencyref33_CheckDocket.mono _ _ _ _ _ _)
   | (with_reducible exact insolvencyref33_lapsed.mono _ _ _ _ _ _ _)
   | (with_reducible exact LeO.refl _)
   | (with_reducible exact LeO.none _)
   | (with_reducible refine LeO.ite ?_ ?_)
   | (with_reducible refine LeO.bind ?_ (fun _ => ?_))
   | exact insolvencyref33_CheckDocket.mono _ _ _ _ _ _
   | exact insolvencyref33_lapsed.mono _ _ _ _ _ _ _
   | exact LeO.none _
   | refine LeO.ite ?_ ?_
   | refine LeO.bind ?_ (fun _ => ?_)
set_option maxHeartbeats 8000000 in
set_option maxRecDepth 100000 in
theorem insolvencyref33_Advance.calls (k : Nat) (a0_0 : Int) (a0_1 : Int) (a0_2 : Int) (A0_3 : Option Addr) (c0_3 : Nat) (l0_3 : List Int) (A0_4 : Option Addr) (c0_4 : Nat) (l0_4 : List (S50)) (a1 : Int) (r1 : Int) (r2 : Int) (r3 : Int) (r4 : List Int) (r5 : List (S50)) (r6 : List (S52)) (r7 : Int) (w : World) (hr0_3 : Kd.C (Kd.int .i64) w A0_3 l0_3.length l0_3) (hc0_3 : l0_3.length ≤ c0_3) (hr0_4 : Kd.C k50 w A0_4 l0_4.length l0_4) (hc0_4 : l0_4.length ≤ c0_4) (h : insolvencyref33_Advance.f k a0_0 a0_1 a0_2 l0_3 l0_4 a1 = some (r1, r2, r3, r4, r5, r6, r7)) :
  Calls Try.prog 27 #[.agg #[.int .i64 a0_0, .int .i64 a0_1, .int .i64 a0_2, .slice A0_3 l0_3.length c0_3, .slice A0_4 l0_4.length c0_4], .int .i64 a1] w fun e w' => ∃ v3_ v4_ v5_ : Value, e = .returned (.tuple #[.agg #[.int .i64 r1, .int .i64 r2, .int .i64 r3, v3_, v4_], v5_, .int .i64 r7]) ∧ Kd.R (Kd.int .i64) 3 w' w.heap.size (fun _ => True) v3_ r4 ∧ Kd.R k50 50 w' w.heap.size (fun _ => True) v4_ r5 ∧ Kd.R k52 52 w' w.heap.size (fun _ => True) v5_ r6 ∧ Below w.heap.size w w' := by
 have hu30 := Try.underlying30
 have HR0_3 := Aside0.mk hr0_3
 have HC0_3 := Aside0.mk hc0_3
 clear hr0_3 hc0_3
 have HR0_4 := Aside0.mk hr0_4
 have HC0_4 := Aside0.mk hc0_4
 clear hr0_4 hc0_4
 have HB := Aside0.mk (Below.refl w.heap.size w)
 have H : ((insolvencyref33_CheckDocket.f k a0_0 a0_1 a0_2 l0_3 l0_4).bind fun t482 => (if t482 = 0 then ((insolvencyref33_day.f a1).bind fun t483 => (if t483 = true then (if a1 < a0_0 then (some (0, 0, 0, ([] : List Int), ([] : List (S50)), ([] : List (S52)), 15)) else ((insolvencyref33_lapsed.f k a0_0 a0_1 a0_2 l0_3 l0_4 a1).bind fun bt484 => (some (bt484.1, bt484.2.1, bt484.2.2.1, bt484.2.2.2.1, bt484.2.2.2.2.1, bt484.2.2.2.2.2, 0)))) else (some (0, 0, 0, ([] : List Int), ([] : List (S50)), ([] : List (S52)), 1)))) else (some (0, 0, 0, ([] : List Int), ([] : List (S50)), ([] : List (S52)), t482)))) = some (r1, r2, r3, r4, r5, r6, r7) := h
 clear h
 replace H := Option.bind_eq_some_iff.mp H
 obtain ⟨t482, A30, H⟩ := H
 replace H : (if t482 = 0 then ((insolvencyref33_day.f a1).bind fun t483 => (if t483 = true then (if a1 < a0_0 then (some (0, 0, 0, ([] : List Int), ([] : List (S50)), ([] : List (S52)), 15)) else ((insolvencyref33_lapsed.f k a0_0 a0_1 a0_2 l0_3 l0_4 a1).bind fun bt484 => (some (bt484.1, bt484.2.1, bt484.2.2.1, bt484.2.2.2.1, bt484.2.2.2.2.1, bt484.2.2.2.2.2, 0)))) else (some (0, 0, 0, ([] : List Int), ([] : List (S50)), ([] : List (S52)), 1)))) else (some (0, 0, 0, ([] : List Int), ([] : List (S50)), ([] : List (S52)), t482))) = some (r1, r2, r3, r4, r5, r6, r7) := H
 have A3 := Aside0.mk A30
 clear A30
 by_cases c4 : t482 = 0
 ·rw [if_pos c4] at H
  have c4b0 : (t482 == 0) = true := beq_iff_eq.mpr c4
  have c4b1 : (t482 != 0) = false := bne_eq_false_iff_eq.mpr c4
  clear c4
  replace H := Option.bind_eq_some_iff.mp H
  obtain ⟨t483, A50, H⟩ := H
  replace H : (if t483 = true then (if a1 < a0_0 then (some (0, 0, 0, ([] : List Int), ([] : List (S50)), ([] : List (S52)), 15)) else ((insolvencyref33_lapsed.f k a0_0 a0_1 a0_2 l0_3 l0_4 a1).bind fun bt484 => (some (bt484.1, bt484.2.1, bt484.2.2.1, bt484.2.2.2.1, bt484.2.2.2.2.1, bt484.2.2.2.2.2, 0)))) else (some (0, 0, 0, ([] : List Int), ([] : List (S50)), ([] : List (S52)), 1))) = some (r1, r2, r3, r4, r5, r6, r7) := H
  have A5 := Aside0.mk A50
  clear A50
  by_cases c6 : t483 = true
  ·subst c6
   have H1 : (if a1 < a0_0 then (some (0, 0, 0, ([] : List Int), ([] : List (S50)), ([] : List (S52)), 15)) else ((insolvencyref33_lapsed.f k a0_0 a0_1 a0_2 l0_3 l0_4 a1).bind fun bt484 => (some (bt484.1, bt484.2.1, bt484.2.2.1, bt484.2.2.2.1, bt484.2.2.2.2.1, bt484.2.2.2.2.2, 0)))) = some (r1, r2, r3, r4, r5, r6, r7) := by rw [if_pos rfl] at H; exact H
   clear H
   have H := H1
   clear H1
   by_cases c7 : a1 < a0_0
   ·rw [if_pos c7] at H
    have c7b0 : decide (a1 < a0_0) = true := decide_eq_true c7
    clear c7
    simp only [Option.some.injEq, Prod.mk.injEq] at H
    obtain ⟨rfl, rfl, rfl, rfl, rfl, rfl, rfl⟩ := H
    go_enter Try.func27, Try.ntmps27
    go_wp2_with (first | ((with_reducible refine gate_dst (N := 2) rfl ?_); refine boxE (N := 2) #[.int .i64 a0_0, .int .i64 a0_1, .int .i64 a0_2, .slice A0_3 l0_3.length c0_3, .slice A0_4 l0_4.length c0_4] 30 ?_; intro gb480 hg w8 hbox hb; have BK480 := Aside0.mk (hbox); have GW480 := gS HB hg; have GE480 := gS HB hg; replace HB := Aside0.mk (below_step (pB HB) hb); clear hb hbox hg) | ((with_reducible refine gate_dst (N := 4) rfl ?_); refine boxE (N := 4) #[.int .i64 0, .int .i64 0, .int .i64 0, .slice none 0 0, .slice none 0 0] 30 ?_; intro gb481 hg w9 hbox hb; have BK481 := Aside0.mk (hbox); have GW481 := gS HB hg; have GE481 := gS HB hg; have NB480_481 := nL BK480 hg; have NB481_480 := nG BK480 hg; replace BK480 := bB BK480 hb; replace HB := Aside0.mk (below_step (pB HB) hb); clear hb hbox hg; have hnb10 := NB480_481.out; have hnc10 := NB481_480.out; obtain ⟨hcz11_0, hcz11_1, hcz11_2, hcz11_3, hcz11_4⟩ := cells5 BK480; obtain ⟨hfz11_0, hfz11_1, hfz11_2, hfz11_3, hfz11_4⟩ := frz5 BK480) | ((with_reducible refine gate_callee (f := 24) rfl ?_); refine goesL_ (some 11) rfl rfl Try.func24 (by kernel_rfl) rfl #[.agg #[.int .i64 a0_0, .int .i64 a0_1, .int .i64 a0_2, .slice A0_3 l0_3.length c0_3, .slice A0_4 l0_4.length c0_4]] rfl (by (try simp only [List.map_toArray, List.map_cons, List.map_nil]); first | done | rfl | (simp only [List.length_drop, List.length_take]; rfl)) ?_; (with_reducible refine (insolvencyref33_CheckDocket.calls k a0_0 a0_1 a0_2 _ _ l0_3 _ _ l0_4 t482 _ ?side1 ?side2 ?side3 ?side4 A3.out).mono ?_); (case side1 => exact cB HR0_3 HB); (case side2 => exact HC0_3.out); (case side3 => exact cB HR0_4 HB); (case side4 => exact HC0_4.out); rintro e w12 ⟨rfl, hb⟩; refine ⟨_, rfl, ?_⟩; replace BK480 := bB BK480 hb; replace BK481 := bB BK481 hb; replace HB := Aside0.mk (below_step (pB HB) hb); (try clear hb)) | ((with_reducible refine gate_callee (f := 44) rfl ?_); refine goesL_ (some 17) rfl rfl Try.func44 (by kernel_rfl) rfl #[.int .i64 a1] rfl (by (try simp only [List.map_toArray, List.map_cons, List.map_nil]); first | done | rfl | (simp only [List.length_drop, List.length_take]; rfl)) ?_; (with_reducible refine (insolvencyref33_day.calls a1 true _ A5.out).mono ?_); rintro e w' ⟨rfl, ⟨nd, rfl⟩⟩; refine ⟨_, rfl, ?_⟩; (try (rw [drewN_self w12]; generalize hq_ : World.drewN w12 _ = w12; have n0_ : Aside0 (w12.heap[gb480]? = some (.cells #[.int .i64 a0_0, .int .i64 a0_1, .int .i64 a0_2, .slice A0_3 l0_3.length c0_3, .slice A0_4 l0_4.length c0_4] 30 (0, 0))) := ⟨by rw [← hq_]; exact (by (with_reducible repeat (first | refine blk_drewN ?_ _ | refine blk_drew ?_ | refine blk_alloc ?_ _)); exact BK480.out)⟩; have n1_ : Aside0 (w12.heap[gb481]? = some (.cells #[.int .i64 0, .int .i64 0, .int .i64 0, .slice none 0 0, .slice none 0 0] 30 (0, 0))) := ⟨by rw [← hq_]; exact (by (with_reducible repeat (first | refine blk_drewN ?_ _ | refine blk_drew ?_ | refine blk_alloc ?_ _)); exact BK481.out)⟩; have n2_ : Aside0 (Below w.heap.size w w12) := ⟨by rw [← hq_]; exact (pB HB)⟩; clear BK480 BK481 HB hq_; have BK480 := n0_; have BK481 := n1_; have HB := n2_; clear n0_ n1_ n2_)); obtain ⟨hcz13_0, hcz13_1, hcz13_2, hcz13_3, hcz13_4⟩ := cells5 BK480; obtain ⟨hfz13_0, hfz13_1, hfz13_2, hfz13_3, hfz13_4⟩ := frz5 BK480; obtain ⟨hcz14_0, hcz14_1, hcz14_2, hcz14_3, hcz14_4⟩ := cells5 BK481; obtain ⟨hfz14_0, hfz14_1, hfz14_2, hfz14_3, hfz14_4⟩ := frz5 BK481))
    refine bodyPost_ret (results_ctt rfl _ _ gb481 30 #[.int .i64 0, .int .i64 0, .int .i64 0, .slice none 0 0, .slice none 0 0] (0, 0) _ rfl (by (with_reducible repeat (first | refine blk_drewN ?_ _ | refine blk_drew ?_ | refine blk_alloc ?_ _)); refine blk_put (cs := #[.int .i64 0, .int .i64 0, .int .i64 0, .slice none 0 0, .slice none 0 0]) ?_ 4 _ rfl; (with_reducible repeat (first | refine blk_drewN ?_ _ | refine blk_drew ?_ | refine blk_alloc ?_ _)); refine blk_put (cs := #[.int .i64 0, .int .i64 0, .int .i64 0, .slice none 0 0, .slice none 0 0]) ?_ 3 _ rfl; (with_reducible repeat (first | refine blk_drewN ?_ _ | refine blk_drew ?_ | refine blk_alloc ?_ _)); refine blk_put (cs := #[.int .i64 0, .int .i64 0, .int .i64 0, .slice none 0 0, .slice none 0 0]) ?_ 2 _ rfl; (with_reducible repeat (first | refine blk_drewN ?_ _ | refine blk_drew ?_ | refine blk_alloc ?_ _)); refine blk_put (cs := #[.int .i64 0, .int .i64 0, .int .i64 0, .slice none 0 0, .slice none 0 0]) ?_ 1 _ rfl; (with_reducible repeat (first | refine blk_drewN ?_ _ | refine blk_drew ?_ | refine blk_alloc ?_ _)); refine blk_put (cs := #[.int .i64 0, .int .i64 0, .int .i64 0, .slice none 0 0, .slice none 0 0]) ?_ 0 _ rfl; (with_reducible repeat (first | refine blk_drewN ?_ _ | refine blk_drew ?_ | refine blk_alloc ?_ _)); exact BK481.out) Try.underlying30 rfl (by kernel_rfl)) rfl ?_
    exact ⟨_, _, _, by first | rfl | (simp [errW_none, errW_some] <;> rfl) | (simp [*, errW_none, errW_some] <;> rfl), by first | exact Kd.R_nil _ _ _ _ _ | exact Kd.N_nil _ _ _ _ _ | exact Kd.V_nil _ _ _ _ _ | exact Kd.Q_nil _ _ _ _ _ | exact Kd.S_nil _ _ _ _ _, by first | exact Kd.R_nil _ _ _ _ _ | exact Kd.N_nil _ _ _ _ _ | exact Kd.V_nil _ _ _ _ _ | exact Kd.Q_nil _ _ _ _ _ | exact Kd.S_nil _ _ _ _ _, by first | exact Kd.R_nil _ _ _ _ _ | exact Kd.N_nil _ _ _ _ _ | exact Kd.V_nil _ _ _ _ _ | exact Kd.Q_nil _ _ _ _ _ | exact Kd.S_nil _ _ _ _ _, pB HB⟩
   ·rw [if_neg c7] at H
    have c7b0 : decide (a1 < a0_0) = false := decide_eq_false c7
    clear c7
    replace H := Option.bind_eq_some_iff.mp H
    obtain ⟨⟨t484, t485, t486, t487, t490, t493⟩, A150, H⟩ := H
    replace H : (some (t484, t485, t486, t487, t490, t493, 0)) = some (r1, r2, r3, r4, r5, r6, r7) := H
    have A15 := Aside0.mk A150
    clear A150
    simp only [Option.some.injEq, Prod.mk.injEq] at H
    obtain ⟨rfl, rfl, rfl, rfl, rfl, rfl, rfl⟩ := H
    go_enter Try.func27, Try.ntmps27
    go_wp2_with (first | ((with_reducible refine gate_dst (N := 2) rfl ?_); refine boxE (N := 2) #[.int .i64 a0_0, .int .i64 a0_1, .int .i64 a0_2, .slice A0_3 l0_3.length c0_3, .slice A0_4 l0_4.length c0_4] 30 ?_; intro gb480 hg w16 hbox hb; have BK480 := Aside0.mk (hbox); have GW480 := gS HB hg; have GE480 := gS HB hg; replace HB := Aside0.mk (below_step (pB HB) hb); clear hb hbox hg) | ((with_reducible refine gate_dst (N := 4) rfl ?_); refine boxE (N := 4) #[.int .i64 0, .int .i64 0, .int .i64 0, .slice none 0 0, .slice none 0 0] 30 ?_; intro gb481 hg w17 hbox hb; have BK481 := Aside0.mk (hbox); have GW481 := gS HB hg; have GE481 := gS HB hg; have NB480_481 := nL BK480 hg; have NB481_480 := nG BK480 hg; replace BK480 := bB BK480 hb; replace HB := Aside0.mk (below_step (pB HB) hb); clear hb hbox hg; have hnb18 := NB480_481.out; have hnc18 := NB481_480.out; obtain ⟨hcz19_0, hcz19_1, hcz19_2, hcz19_3, hcz19_4⟩ := cells5 BK480; obtain ⟨hfz19_0, hfz19_1, hfz19_2, hfz19_3, hfz19_4⟩ := frz5 BK480) | ((with_reducible refine gate_callee (f := 24) rfl ?_); refine goesL_ (some 11) rfl rfl Try.func24 (by kernel_rfl) rfl #[.agg #[.int .i64 a0_0, .int .i64 a0_1, .int .i64 a0_2, .slice A0_3 l0_3.length c0_3, .slice A0_4 l0_4.length c0_4]] rfl (by (try simp only [List.map_toArray, List.map_cons, List.map_nil]); first | done | rfl | (simp only [List.length_drop, List.length_take]; rfl)) ?_; (with_reducible refine (insolvencyref33_CheckDocket.calls k a0_0 a0_1 a0_2 _ _ l0_3 _ _ l0_4 t482 _ ?side1 ?side2 ?side3 ?side4 A3.out).mono ?_); (case side1 => exact cB HR0_3 HB); (case side2 => exact HC0_3.out); (case side3 => exact cB HR0_4 HB); (case side4 => exact HC0_4.out); rintro e w20 ⟨rfl, hb⟩; refine ⟨_, rfl, ?_⟩; replace BK480 := bB BK480 hb; replace BK481 := bB BK481 hb; replace HB := Aside0.mk (below_step (pB HB) hb); (try clear hb)) | ((with_reducible refine gate_callee (f := 44) rfl ?_); refine goesL_ (some 17) rfl rfl Try.func44 (by kernel_rfl) rfl #[.int .i64 a1] rfl (by (try simp only [List.map_toArray, List.map_cons, List.map_nil]); first | done | rfl | (simp only [List.length_drop, List.length_take]; rfl)) ?_; (with_reducible refine (insolvencyref33_day.calls a1 true _ A5.out).mono ?_); rintro e w' ⟨rfl, ⟨nd, rfl⟩⟩; refine ⟨_, rfl, ?_⟩; (try (rw [drewN_self w20]; generalize hq_ : World.drewN w20 _ = w20; have n0_ : Aside0 (w20.heap[gb480]? = some (.cells #[.int .i64 a0_0, .int .i64 a0_1, .int .i64 a0_2, .slice A0_3 l0_3.length c0_3, .slice A0_4 l0_4.length c0_4] 30 (0, 0))) := ⟨by rw [← hq_]; exact (by (with_reducible repeat (first | refine blk_drewN ?_ _ | refine blk_drew ?_ | refine blk_alloc ?_ _)); exact BK480.out)⟩; have n1_ : Aside0 (w20.heap[gb481]? = some (.cells #[.int .i64 0, .int .i64 0, .int .i64 0, .slice none 0 0, .slice none 0 0] 30 (0, 0))) := ⟨by rw [← hq_]; exact (by (with_reducible repeat (first | refine blk_drewN ?_ _ | refine blk_drew ?_ | refine blk_alloc ?_ _)); exact BK481.out)⟩; have n2_ : Aside0 (Below w.heap.size w w20) := ⟨by rw [← hq_]; exact (pB HB)⟩; clear BK480 BK481 HB hq_; have BK480 := n0_; have BK481 := n1_; have HB := n2_; clear n0_ n1_ n2_)); obtain ⟨hcz21_0, hcz21_1, hcz21_2, hcz21_3, hcz21_4⟩ := cells5 BK480; obtain ⟨hfz21_0, hfz21_1, hfz21_2, hfz21_3, hfz21_4⟩ := frz5 BK480) | ((with_reducible refine gate_callee (f := 45) rfl ?_); refine goesL_ (some 28) rfl rfl Try.func45 (by kernel_rfl) rfl #[.agg #[.int .i64 a0_0, .int .i64 a0_1, .int .i64 a0_2, .slice A0_3 l0_3.length c0_3, .slice A0_4 l0_4.length c0_4], .int .i64 a1] rfl (by (try simp only [List.map_toArray, List.map_cons, List.map_nil]); first | done | rfl | (simp only [List.length_drop, List.length_take]; rfl)) ?_; (with_reducible refine (insolvencyref33_lapsed.calls k a0_0 a0_1 a0_2 _ _ l0_3 _ _ l0_4 a1 t484 t485 t486 t487 t490 t493 _ ?side1 ?side2 ?side3 ?side4 A15.out).mono ?_); (case side1 => exact cB HR0_3 HB); (case side2 => exact HC0_3.out); (case side3 => exact cB HR0_4 HB); (case side4 => exact HC0_4.out); rintro e w22 ⟨v488, v491, v494, rfl, ho0, ho1, ho2, hb⟩; refine ⟨_, rfl, ?_⟩; have HO489 := Aside0.mk (Kd.R_lower ho0 (below_size (pB HB))); have HO492 := Aside0.mk (Kd.R_lower ho1 (below_size (pB HB))); have HO495 := Aside0.mk (Kd.R_lower ho2 (below_size (pB HB))); replace BK480 := bB BK480 hb; replace BK481 := bB BK481 hb; replace HB := Aside0.mk (below_step (pB HB) hb); (try clear hb); (try clear ho0); (try clear ho1); (try clear ho2)) | ((with_reducible refine gate_dst (N := 8) rfl ?_); refine boxE (N := 8) #[.int .i64 0, .int .i64 0, .int .i64 0, .slice none 0 0, .slice none 0 0] 30 ?_; intro gb496 hg w23 hbox hb; have BK496 := Aside0.mk (hbox); have GW496 := gS HB hg; have GE496 := gS HB hg; have NB480_496 := nL BK480 hg; have NB496_480 := nG BK480 hg; have NB481_496 := nL BK481 hg; have NB496_481 := nG BK481 hg; replace HO489 := rB HO489 hb; replace HO492 := rB HO492 hb; replace HO495 := rB HO495 hb; replace BK480 := bB BK480 hb; replace BK481 := bB BK481 hb; replace HB := Aside0.mk (below_step (pB HB) hb); clear hb hbox hg; have hnb24 := NB496_480.out; have hnc24 := NB480_496.out; have hnb25 := NB496_481.out; have hnc25 := NB481_496.out; obtain ⟨hcz26_0, hcz26_1, hcz26_2, hcz26_3, hcz26_4⟩ := cells5 BK496; obtain ⟨hfz26_0, hfz26_1, hfz26_2, hfz26_3, hfz26_4⟩ := frz5 BK496; obtain ⟨Ao27, co27, eo27⟩ := Kd.R_slice HO489.out; subst eo27; obtain ⟨Ao28, co28, eo28⟩ := Kd.R_slice HO492.out; subst eo28; obtain ⟨hcz29_0, hcz29_1, hcz29_2, hcz29_3, hcz29_4⟩ := cells5 BK481; obtain ⟨hfz29_0, hfz29_1, hfz29_2, hfz29_3, hfz29_4⟩ := frz5 BK481))
    refine bodyPost_ret (results_ctt rfl _ _ gb481 30 #[.int .i64 t484, .int .i64 t485, .int .i64 t486, .slice Ao27 t487.length co27, .slice Ao28 t490.length co28] (0, 0) _ rfl (by (with_reducible repeat (first | refine blk_drewN ?_ _ | refine blk_drew ?_ | refine blk_alloc ?_ _)); refine blk_put (cs := #[.int .i64 t484, .int .i64 t485, .int .i64 t486, .slice Ao27 t487.length co27, .slice none 0 0]) ?_ 4 _ rfl; (with_reducible repeat (first | refine blk_drewN ?_ _ | refine blk_drew ?_ | refine blk_alloc ?_ _)); refine blk_put (cs := #[.int .i64 t484, .int .i64 t485, .int .i64 t486, .slice none 0 0, .slice none 0 0]) ?_ 3 _ rfl; (with_reducible repeat (first | refine blk_drewN ?_ _ | refine blk_drew ?_ | refine blk_alloc ?_ _)); refine blk_put (cs := #[.int .i64 t484, .int .i64 t485, .int .i64 0, .slice none 0 0, .slice none 0 0]) ?_ 2 _ rfl; (with_reducible repeat (first | refine blk_drewN ?_ _ | refine blk_drew ?_ | refine blk_alloc ?_ _)); refine blk_put (cs := #[.int .i64 t484, .int .i64 0, .int .i64 0, .slice none 0 0, .slice none 0 0]) ?_ 1 _ rfl; (with_reducible repeat (first | refine blk_drewN ?_ _ | refine blk_drew ?_ | refine blk_alloc ?_ _)); refine blk_put (cs := #[.int .i64 0, .int .i64 0, .int .i64 0, .slice none 0 0, .slice none 0 0]) ?_ 0 _ rfl; (with_reducible repeat (first | refine blk_drewN ?_ _ | refine blk_drew ?_ | refine blk_alloc ?_ _)); refine blk_far ?_ NB481_496.out _; (with_reducible repeat (first | refine blk_drewN ?_ _ | refine blk_drew ?_ | refine blk_alloc ?_ _)); refine blk_far ?_ NB481_496.out _; (with_reducible repeat (first | refine blk_drewN ?_ _ | refine blk_drew ?_ | refine blk_alloc ?_ _)); refine blk_far ?_ NB481_496.out _; (with_reducible repeat (first | refine blk_drewN ?_ _ | refine blk_drew ?_ | refine blk_alloc ?_ _)); refine blk_far ?_ NB481_496.out _; (with_reducible repeat (first | refine blk_drewN ?_ _ | refine blk_drew ?_ | refine blk_alloc ?_ _)); refine blk_far ?_ NB481_496.out _; (with_reducible repeat (first | refine blk_drewN ?_ _ | refine blk_drew ?_ | refine blk_alloc ?_ _)); exact BK481.out) Try.underlying30 rfl (by kernel_rfl)) rfl ?_
    exact ⟨_, _, _, by first | rfl | (simp [errW_none, errW_some] <;> rfl) | (simp [*, errW_none, errW_some] <;> rfl), by (with_reducible repeat (first | apply Kd.R_alloc | apply Kd.R_drewN | apply Kd.R_drew)); exact Kd.R_mono (Kd.R_far (p := ⟨gb481, 4, none⟩) (Kd.R_far (p := ⟨gb481, 3, none⟩) (Kd.R_far (p := ⟨gb481, 2, none⟩) (Kd.R_far (p := ⟨gb481, 1, none⟩) (Kd.R_far (p := ⟨gb481, 0, none⟩) (Kd.R_far (p := ⟨gb496, 4, none⟩) (Kd.R_far (p := ⟨gb496, 3, none⟩) (Kd.R_far (p := ⟨gb496, 2, none⟩) (Kd.R_far (p := ⟨gb496, 1, none⟩) (Kd.R_far (p := ⟨gb496, 0, none⟩) (Kd.R_types (Kd.R_types HO489.out BK496.out (by decide)) BK481.out (by decide)) (fun _ hk => hk.1.2) (.int .i64 t484)) (fun _ hk => hk.1.2) (.int .i64 t485)) (fun _ hk => hk.1.2) (.int .i64 t486)) (fun _ hk => hk.1.2) (.slice Ao27 t487.length co27)) (fun _ hk => hk.1.2) (.slice Ao28 t490.length co28)) (fun _ hk => hk.2) (.int .i64 t484)) (fun _ hk => hk.2) (.int .i64 t485)) (fun _ hk => hk.2) (.int .i64 t486)) (fun _ hk => hk.2) (.slice Ao27 t487.length co27)) (fun _ hk => hk.2) (.slice Ao28 t490.length co28)) (fun _ hk => trivial), by (with_reducible repeat (first | apply Kd.R_alloc | apply Kd.R_drewN | apply Kd.R_drew)); exact Kd.R_mono (Kd.R_far (p := ⟨gb481, 4, none⟩) (Kd.R_far (p := ⟨gb481, 3, none⟩) (Kd.R_far (p := ⟨gb481, 2, none⟩) (Kd.R_far (p := ⟨gb481, 1, none⟩) (Kd.R_far (p := ⟨gb481, 0, none⟩) (Kd.R_far (p := ⟨gb496, 4, none⟩) (Kd.R_far (p := ⟨gb496, 3, none⟩) (Kd.R_far (p := ⟨gb496, 2, none⟩) (Kd.R_far (p := ⟨gb496, 1, none⟩) (Kd.R_far (p := ⟨gb496, 0, none⟩) (Kd.R_types (Kd.R_types HO492.out BK496.out (by decide)) BK481.out (by decide)) (fun _ hk => hk.1.2) (.int .i64 t484)) (fun _ hk => hk.1.2) (.int .i64 t485)) (fun _ hk => hk.1.2) (.int .i64 t486)) (fun _ hk => hk.1.2) (.slice Ao27 t487.length co27)) (fun _ hk => hk.1.2) (.slice Ao28 t490.length co28)) (fun _ hk => hk.2) (.int .i64 t484)) (fun _ hk => hk.2) (.int .i64 t485)) (fun _ hk => hk.2) (.int .i64 t486)) (fun _ hk => hk.2) (.slice Ao27 t487.length co27)) (fun _ hk => hk.2) (.slice Ao28 t490.length co28)) (fun _ hk => trivial), by (with_reducible repeat (first | apply Kd.R_alloc | apply Kd.R_drewN | apply Kd.R_drew)); exact Kd.R_mono (Kd.R_far (p := ⟨gb481, 4, none⟩) (Kd.R_far (p := ⟨gb481, 3, none⟩) (Kd.R_far (p := ⟨gb481, 2, none⟩) (Kd.R_far (p := ⟨gb481, 1, none⟩) (Kd.R_far (p := ⟨gb481, 0, none⟩) (Kd.R_far (p := ⟨gb496, 4, none⟩) (Kd.R_far (p := ⟨gb496, 3, none⟩) (Kd.R_far (p := ⟨gb496, 2, none⟩) (Kd.R_far (p := ⟨gb496, 1, none⟩) (Kd.R_far (p := ⟨gb496, 0, none⟩) (Kd.R_types (Kd.R_types HO495.out BK496.out (by decide)) BK481.out (by decide)) (fun _ hk => hk.1.2) (.int .i64 t484)) (fun _ hk => hk.1.2) (.int .i64 t485)) (fun _ hk => hk.1.2) (.int .i64 t486)) (fun _ hk => hk.1.2) (.slice Ao27 t487.length co27)) (fun _ hk => hk.1.2) (.slice Ao28 t490.length co28)) (fun _ hk => hk.2) (.int .i64 t484)) (fun _ hk => hk.2) (.int .i64 t485)) (fun _ hk => hk.2) (.int .i64 t486)) (fun _ hk => hk.2) (.slice Ao27 t487.length co27)) (fun _ hk => hk.2) (.slice Ao28 t490.length co28)) (fun _ hk => trivial), pB HB⟩
  ·replace c6 := Bool.eq_false_iff.mpr c6
   subst c6
   have H1 : (some (0, 0, 0, ([] : List Int), ([] : List (S50)), ([] : List (S52)), 1)) = some (r1, r2, r3, r4, r5, r6, r7) := by rw [if_neg (show ¬ (false = true) by decide)] at H; exact H
   clear H
   have H := H1
   clear H1
   simp only [Option.some.injEq, Prod.mk.injEq] at H
   obtain ⟨rfl, rfl, rfl, rfl, rfl, rfl, rfl⟩ := H
   go_enter Try.func27, Try.ntmps27
   go_wp2_with (first | ((with_reducible refine gate_dst (N := 2) rfl ?_); refine boxE (N := 2) #[.int .i64 a0_0, .int .i64 a0_1, .int .i64 a0_2, .slice A0_3 l0_3.length c0_3, .slice A0_4 l0_4.length c0_4] 30 ?_; intro gb480 hg w30 hbox hb; have BK480 := Aside0.mk (hbox); have GW480 := gS HB hg; have GE480 := gS HB hg; replace HB := Aside0.mk (below_step (pB HB) hb); clear hb hbox hg) | ((with_reducible refine gate_dst (N := 4) rfl ?_); refine boxE (N := 4) #[.int .i64 0, .int .i64 0, .int .i64 0, .slice none 0 0, .slice none 0 0] 30 ?_; intro gb481 hg w31 hbox hb; have BK481 := Aside0.mk (hbox); have GW481 := gS HB hg; have GE481 := gS HB hg; have NB480_481 := nL BK480 hg; have NB481_480 := nG BK480 hg; replace BK480 := bB BK480 hb; replace HB := Aside0.mk (below_step (pB HB) hb); clear hb hbox hg; have hnb32 := NB480_481.out; have hnc32 := NB481_480.out; obtain ⟨hcz33_0, hcz33_1, hcz33_2, hcz33_3, hcz33_4⟩ := cells5 BK480; obtain ⟨hfz33_0, hfz33_1, hfz33_2, hfz33_3, hfz33_4⟩ := frz5 BK480) | ((with_reducible refine gate_callee (f := 24) rfl ?_); refine goesL_ (some 11) rfl rfl Try.func24 (by kernel_rfl) rfl #[.agg #[.int .i64 a0_0, .int .i64 a0_1, .int .i64 a0_2, .slice A0_3 l0_3.length c0_3, .slice A0_4 l0_4.length c0_4]] rfl (by (try simp only [List.map_toArray, List.map_cons, List.map_nil]); first | done | rfl | (simp only [List.length_drop, List.length_take]; rfl)) ?_; (with_reducible refine (insolvencyref33_CheckDocket.calls k a0_0 a0_1 a0_2 _ _ l0_3 _ _ l0_4 t482 _ ?side1 ?side2 ?side3 ?side4 A3.out).mono ?_); (case side1 => exact cB HR0_3 HB); (case side2 => exact HC0_3.out); (case side3 => exact cB HR0_4 HB); (case side4 => exact HC0_4.out); rintro e w34 ⟨rfl, hb⟩; refine ⟨_, rfl, ?_⟩; replace BK480 := bB BK480 hb; replace BK481 := bB BK481 hb; replace HB := Aside0.mk (below_step (pB HB) hb); (try clear hb)) | ((with_reducible refine gate_callee (f := 44) rfl ?_); refine goesL_ (some 17) rfl rfl Try.func44 (by kernel_rfl) rfl #[.int .i64 a1] rfl (by (try simp only [List.map_toArray, List.map_cons, List.map_nil]); first | done | rfl | (simp only [List.length_drop, List.length_take]; rfl)) ?_; (with_reducible refine (insolvencyref33_day.calls a1 false _ A5.out).mono ?_); rintro e w' ⟨rfl, ⟨nd, rfl⟩⟩; refine ⟨_, rfl, ?_⟩; (try (rw [drewN_self w34]; generalize hq_ : World.drewN w34 _ = w34; have n0_ : Aside0 (w34.heap[gb480]? = some (.cells #[.int .i64 a0_0, .int .i64 a0_1, .int .i64 a0_2, .slice A0_3 l0_3.length c0_3, .slice A0_4 l0_4.length c0_4] 30 (0, 0))) := ⟨by rw [← hq_]; exact (by (with_reducible repeat (first | refine blk_drewN ?_ _ | refine blk_drew ?_ | refine blk_alloc ?_ _)); exact BK480.out)⟩; have n1_ : Aside0 (w34.heap[gb481]? = some (.cells #[.int .i64 0, .int .i64 0, .int .i64 0, .slice none 0 0, .slice none 0 0] 30 (0, 0))) := ⟨by rw [← hq_]; exact (by (with_reducible repeat (first | refine blk_drewN ?_ _ | refine blk_drew ?_ | refine blk_alloc ?_ _)); exact BK481.out)⟩; have n2_ : Aside0 (Below w.heap.size w w34) := ⟨by rw [← hq_]; exact (pB HB)⟩; clear BK480 BK481 HB hq_; have BK480 := n0_; have BK481 := n1_; have HB := n2_; clear n0_ n1_ n2_)); obtain ⟨hcz35_0, hcz35_1, hcz35_2, hcz35_3, hcz35_4⟩ := cells5 BK481; obtain ⟨hfz35_0, hfz35_1, hfz35_2, hfz35_3, hfz35_4⟩ := frz5 BK481))
   refine bodyPost_ret (results_ctt rfl _ _ gb481 30 #[.int .i64 0, .int .i64 0, .int .i64 0, .slice none 0 0, .slice none 0 0] (0, 0) _ rfl (by (with_reducible repeat (first | refine blk_drewN ?_ _ | refine blk_drew ?_ | refine blk_alloc ?_ _)); refine blk_put (cs := #[.int .i64 0, .int .i64 0, .int .i64 0, .slice none 0 0, .slice none 0 0]) ?_ 4 _ rfl; (with_reducible repeat (first | refine blk_drewN ?_ _ | refine blk_drew ?_ | refine blk_alloc ?_ _)); refine blk_put (cs := #[.int .i64 0, .int .i64 0, .int .i64 0, .slice none 0 0, .slice none 0 0]) ?_ 3 _ rfl; (with_reducible repeat (first | refine blk_drewN ?_ _ | refine blk_drew ?_ | refine blk_alloc ?_ _)); refine blk_put (cs := #[.int .i64 0, .int .i64 0, .int .i64 0, .slice none 0 0, .slice none 0 0]) ?_ 2 _ rfl; (with_reducible repeat (first | refine blk_drewN ?_ _ | refine blk_drew ?_ | refine blk_alloc ?_ _)); refine blk_put (cs := #[.int .i64 0, .int .i64 0, .int .i64 0, .slice none 0 0, .slice none 0 0]) ?_ 1 _ rfl; (with_reducible repeat (first | refine blk_drewN ?_ _ | refine blk_drew ?_ | refine blk_alloc ?_ _)); refine blk_put (cs := #[.int .i64 0, .int .i64 0, .int .i64 0, .slice none 0 0, .slice none 0 0]) ?_ 0 _ rfl; (with_reducible repeat (first | refine blk_drewN ?_ _ | refine blk_drew ?_ | refine blk_alloc ?_ _)); exact BK481.out) Try.underlying30 rfl (by kernel_rfl)) rfl ?_
   exact ⟨_, _, _, by first | rfl | (simp [errW_none, errW_some] <;> rfl) | (simp [*, errW_none, errW_some] <;> rfl), by first | exact Kd.R_nil _ _ _ _ _ | exact Kd.N_nil _ _ _ _ _ | exact Kd.V_nil _ _ _ _ _ | exact Kd.Q_nil _ _ _ _ _ | exact Kd.S_nil _ _ _ _ _, by first | exact Kd.R_nil _ _ _ _ _ | exact Kd.N_nil _ _ _ _ _ | exact Kd.V_nil _ _ _ _ _ | exact Kd.Q_nil _ _ _ _ _ | exact Kd.S_nil _ _ _ _ _, by first | exact Kd.R_nil _ _ _ _ _ | exact Kd.N_nil _ _ _ _ _ | exact Kd.V_nil _ _ _ _ _ | exact Kd.Q_nil _ _ _ _ _ | exact Kd.S_nil _ _ _ _ _, pB HB⟩
 ·rw [if_neg c4] at H
  have c4b0 : (t482 == 0) = false := beq_eq_false_iff_ne.mpr c4
  have c4b1 : (t482 != 0) = true := bne_iff_ne.mpr c4
  simp only [Option.some.injEq, Prod.mk.injEq] at H
  obtain ⟨rfl, rfl, rfl, rfl, rfl, rfl, rfl⟩ := H
  go_enter Try.func27, Try.ntmps27
  go_wp2_with (first | ((with_reducible refine gate_dst (N := 2) rfl ?_); refine boxE (N := 2) #[.int .i64 a0_0, .int .i64 a0_1, .int .i64 a0_2, .slice A0_3 l0_3.length c0_3, .slice A0_4 l0_4.length c0_4] 30 ?_; intro gb480 hg w36 hbox hb; have BK480 := Aside0.mk (hbox); have GW480 := gS HB hg; have GE480 := gS HB hg; replace HB := Aside0.mk (below_step (pB HB) hb); clear hb hbox hg) | ((with_reducible refine gate_dst (N := 4) rfl ?_); refine boxE (N := 4) #[.int .i64 0, .int .i64 0, .int .i64 0, .slice none 0 0, .slice none 0 0] 30 ?_; intro gb481 hg w37 hbox hb; have BK481 := Aside0.mk (hbox); have GW481 := gS HB hg; have GE481 := gS HB hg; have NB480_481 := nL BK480 hg; have NB481_480 := nG BK480 hg; replace BK480 := bB BK480 hb; replace HB := Aside0.mk (below_step (pB HB) hb); clear hb hbox hg; have hnb38 := NB480_481.out; have hnc38 := NB481_480.out; obtain ⟨hcz39_0, hcz39_1, hcz39_2, hcz39_3, hcz39_4⟩ := cells5 BK480; obtain ⟨hfz39_0, hfz39_1, hfz39_2, hfz39_3, hfz39_4⟩ := frz5 BK480) | ((with_reducible refine gate_callee (f := 24) rfl ?_); refine goesL_ (some 11) rfl rfl Try.func24 (by kernel_rfl) rfl #[.agg #[.int .i64 a0_0, .int .i64 a0_1, .int .i64 a0_2, .slice A0_3 l0_3.length c0_3, .slice A0_4 l0_4.length c0_4]] rfl (by (try simp only [List.map_toArray, List.map_cons, List.map_nil]); first | done | rfl | (simp only [List.length_drop, List.length_take]; rfl)) ?_; (with_reducible refine (insolvencyref33_CheckDocket.calls k a0_0 a0_1 a0_2 _ _ l0_3 _ _ l0_4 t482 _ ?side1 ?side2 ?side3 ?side4 A3.out).mono ?_); (case side1 => exact cB HR0_3 HB); (case side2 => exact HC0_3.out); (case side3 => exact cB HR0_4 HB); (case side4 => exact HC0_4.out); rintro e w40 ⟨rfl, hb⟩; refine ⟨_, rfl, ?_⟩; replace BK480 := bB BK480 hb; replace BK481 := bB BK481 hb; replace HB := Aside0.mk (below_step (pB HB) hb); (try clear hb); obtain ⟨hcz41_0, hcz41_1, hcz41_2, hcz41_3, hcz41_4⟩ := cells5 BK481; obtain ⟨hfz41_0, hfz41_1, hfz41_2, hfz41_3, hfz41_4⟩ := frz5 BK481))
  refine bodyPost_ret (results_ctt rfl _ _ gb481 30 #[.int .i64 0, .int .i64 0, .int .i64 0, .slice none 0 0, .slice none 0 0] (0, 0) _ rfl (by (with_reducible repeat (first | refine blk_drewN ?_ _ | refine blk_drew ?_ | refine blk_alloc ?_ _)); refine blk_put (cs := #[.int .i64 0, .int .i64 0, .int .i64 0, .slice none 0 0, .slice none 0 0]) ?_ 4 _ rfl; (with_reducible repeat (first | refine blk_drewN ?_ _ | refine blk_drew ?_ | refine blk_alloc ?_ _)); refine blk_put (cs := #[.int .i64 0, .int .i64 0, .int .i64 0, .slice none 0 0, .slice none 0 0]) ?_ 3 _ rfl; (with_reducible repeat (first | refine blk_drewN ?_ _ | refine blk_drew ?_ | refine blk_alloc ?_ _)); refine blk_put (cs := #[.int .i64 0, .int .i64 0, .int .i64 0, .slice none 0 0, .slice none 0 0]) ?_ 2 _ rfl; (with_reducible repeat (first | refine blk_drewN ?_ _ | refine blk_drew ?_ | refine blk_alloc ?_ _)); refine blk_put (cs := #[.int .i64 0, .int .i64 0, .int .i64 0, .slice none 0 0, .slice none 0 0]) ?_ 1 _ rfl; (with_reducible repeat (first | refine blk_drewN ?_ _ | refine blk_drew ?_ | refine blk_alloc ?_ _)); refine blk_put (cs := #[.int .i64 0, .int .i64 0, .int .i64 0, .slice none 0 0, .slice none 0 0]) ?_ 0 _ rfl; (with_reducible repeat (first | refine blk_drewN ?_ _ | refine blk_drew ?_ | refine blk_alloc ?_ _)); exact BK481.out) Try.underlying30 rfl (by kernel_rfl)) rfl ?_
  exact ⟨_, _, _, by first | rfl | (simp [errW_none, errW_some] <;> rfl) | (simp [*, errW_none, errW_some] <;> rfl), by first | exact Kd.R_nil _ _ _ _ _ | exact Kd.N_nil _ _ _ _ _ | exact Kd.V_nil _ _ _ _ _ | exact Kd.Q_nil _ _ _ _ _ | exact Kd.S_nil _ _ _ _ _, by first | exact Kd.R_nil _ _ _ _ _ | exact Kd.N_nil _ _ _ _ _ | exact Kd.V_nil _ _ _ _ _ | exact Kd.Q_nil _ _ _ _ _ | exact Kd.S_nil _ _ _ _ _, by first | exact Kd.R_nil _ _ _ _ _ | exact Kd.N_nil _ _ _ _ _ | exact Kd.V_nil _ _ _ _ _ | exact Kd.Q_nil _ _ _ _ _ | exact Kd.S_nil _ _ _ _ _, pB HB⟩
end Go.Proofs.Ytpfiecjacpbhkaa.D

namespace Go.Proofs.Ytpfiecjacpbhkaa.F
open Go.RowKit Go.Proofs.YtpfiecjacpbhkaaW.PrintWords Go.Proofs.YtpfiecjacpbhkaaW.PrintLast Go.Proofs.YtpfiecjacpbhkaaW.PrintMore
attribute [local go_sem] max2_int min2_int max_two min_two max_three min_three max_four min_four
set_option linter.unusedVariables false
set_option linter.unusedSimpArgs false
mutual
def insolvencyref1_AddDays.j0 : Nat → Int → Int → List Int → Bool → Option (Int × Int)
  | 0, _, _, _, _ => none
  | k + 1, x0, x1, x2, x22 => if x22 = true then (some (0, 1)) else (if x1 > 0 then (insolvencyref1_AddDays.j1 k x1 x2 (wrap64 (x0 + 1))) else (insolvencyref1_AddDays.j1 k x1 x2 x0))
def insolvencyref1_AddDays.j1 : Nat → Int → List Int → Int → Option (Int × Int)
  | 0, _, _, _ => none
  | k + 1, x1, x2, x8 => insolvencyref1_AddDays.l0 k x1 x2 x8
def insolvencyref1_AddDays.l0 : Nat → Int → List Int → Int → Option (Int × Int)
  | 0, _, _, _ => none
  | k + 1, x1, x2, x8 => if x8 ≤ 1048576 then ((insolvencyref1_IsBusiness.f k x8 x2).bind fun t126 => (if t126 = true then (if x1 ≤ 1 then (some (x8, 0)) else (insolvencyref1_AddDays.l0 k (wrap64 (x1 - 1)) x2 (wrap64 (x8 + 1)))) else (insolvencyref1_AddDays.l0 k x1 x2 (wrap64 (x8 + 1))))) else (some (0, 1))
end
def insolvencyref1_AddDays.f (k : Nat) (a0 : Int) (a1 : Int) (l2 : List Int) : Option (Int × Int) := if (l2.length : Int) > 1000 then (some (0, 2)) else ((insolvencyref1_IsDay.f a0).bind fun t125 => (if t125 = true then (if a1 < 0 then (insolvencyref1_AddDays.j0 k a0 a1 l2 true) else (insolvencyref1_AddDays.j0 k a0 a1 l2 (decide (a1 > 1048576)))) else (insolvencyref1_AddDays.j0 k a0 a1 l2 true)))
theorem insolvencyref1_AddDays.mono_l : ∀ k, (∀ y0 y1 y2 y3, LeO (insolvencyref1_AddDays.j0 k y0 y1 y2 y3) (insolvencyref1_AddDays.j0 (k + 1) y0 y1 y2 y3)) ∧ (∀ y0 y1 y2, LeO (insolvencyref1_AddDays.j1 k y0 y1 y2) (insolvencyref1_AddDays.j1 (k + 1) y0 y1 y2)) ∧ (∀ y0 y1 y2, LeO (insolvencyref1_AddDays.l0 k y0 y1 y2) (insolvencyref1_AddDays.l0 (k + 1) y0 y1 y2))
  | 0 => ⟨fun _ _ _ _ r h => by simp [insolvencyref1_AddDays.j0] at h, fun _ _ _ r h => by simp [insolvencyref1_AddDays.j1] at h, fun _ _ _ r h => by simp [insolvencyref1_AddDays.l0] at h⟩
  | k + 1 => by
    obtain ⟨ih0, ih1, ih2⟩ := insolvencyref1_AddDays.mono_l k
    refine ⟨?_, ?_, ?_⟩
    · intro y0 y1 y2 y3
      unfold insolvencyref1_AddDays.j0
      repeat' first
      | (with_reducible exact ih0 _ _ _ _)
      | (with_reducible exact ih1 _ _ _)
      | (with_reducible exact ih2 _ _ _)
      | (with_reducible exact insolvencyref1_IsBusiness.mono _ _ _)
      | (with_reducible exact LeO.refl _)
      | (with_reducible exact LeO.none _)
      | (with_reducible refine LeO.ite ?_ ?_)
      | (with_reducible refine LeO.bind ?_ (fun _ => ?_))
      | exact ih0 _ _ _ _
      | exact ih1 _ _ _
      | exact ih2 _ _ _
      | exact insolvencyref1_IsBusiness.mono _ _ _
      | exact LeO.none _
      | refine LeO.ite ?_ ?_
      | refine LeO.bind ?_ (fun _ => ?_)
    · intro y0 y1 y2
      unfold insolvencyref1_AddDays.j1
      repeat' first
      | (with_reducible exact ih0 _ _ _ _)
      | (with_reducible exact ih1 _ _ _)
      | (with_reducible exact ih2 _ _ _)
      | (with_reducible exact insolvencyref1_IsBusiness.mono _ _ _)
      | (with_reducible exact LeO.refl _)
      | (with_reducible exact LeO.none _)
      | (with_reducible refine LeO.ite ?_ ?_)
      | (with_reducible refine LeO.bind ?_ (fun _ => ?_))
      | exact ih0 _ _ _ _
      | exact ih1 _ _ _
      | exact ih2 _ _ _
      | exact insolvencyref1_IsBusiness.mono _ _ _
      | exact LeO.none _
      | refine LeO.ite ?_ ?_
      | refine LeO.bind ?_ (fun _ => ?_)
    · intro y0 y1 y2
      unfold insolvencyref1_AddDays.l0
      repeat' first
      | (with_reducible exact ih0 _ _ _ _)
      | (with_reducible exact ih1 _ _ _)
      | (with_reducible exact ih2 _ _ _)
      | (with_reducible exact insolvencyref1_IsBusiness.mono _ _ _)
      | (with_reducible exact LeO.refl _)
      | (with_reducible exact LeO.none _)
      | (with_reducible refine LeO.ite ?_ ?_)
      | (with_reducible refine LeO.bind ?_ (fun _ => ?_))
      | exact ih0 _ _ _ _
      | exact ih1 _ _ _
      | exact ih2 _ _ _
      | exact insolvencyref1_IsBusiness.mono _ _ _
      | exact LeO.none _
      | refine LeO.ite ?_ ?_
      | refine LeO.bind ?_ (fun _ => ?_)
theorem insolvencyref1_AddDays.mono : ∀ a0 a1 a2 k, LeO (insolvencyref1_AddDays.f k a0 a1 a2) (insolvencyref1_AddDays.f (k + 1) a0 a1 a2) := by
  intro a0 a1 a2 k
  obtain ⟨ih0, ih1, ih2⟩ := insolvencyref1_AddDays.mono_l k
  unfold insolvencyref1_AddDays.f
  repeat' first
      | (with_reducible exact ih0 _ _ _ _)
      | (with_reducible exact ih1 _ _ _)
      | (with_reducible exact ih2 _ _ _)
      | (with_reducible exact insolvencyref1_IsBusiness.mono _ _ _)
      | (with_reducible exact LeO.refl _)
      | (with_reducible exact LeO.none _)
      | (with_reducible refine LeO.ite ?_ ?_)
      | (with_reducible refine LeO.bind ?_ (fun _ => ?_))
      | exact ih0 _ _ _ _
      | exact ih1 _ _ _
      | exact ih2 _ _ _
      | exact insolvencyref1_IsBusiness.mono _ _ _
      | exact LeO.none _
      | refine LeO.ite ?_ ?_
      | refine LeO.bind ?_ (fun _ => ?_)
set_option maxHeartbeats 8000000 in
set_option maxRecDepth 100000 in
theorem insolvencyref1_AddDays.calls (k : Nat) (a0 : Int) (a1 : Int) (A2 : Option Addr) (c2 : Nat) (l2 : List Int) (r1 : Int) (r2 : Int) (w : World) (hr2 : Kd.C (Kd.int .i64) w A2 l2.length l2) (hc2 : l2.length ≤ c2) (h : insolvencyref1_AddDays.f k a0 a1 l2 = some (r1, r2)) :
    Calls Try.prog 61 #[.int .i64 a0, .int .i64 a1, .slice A2 l2.length c2] w fun e w' => e = .returned (.tuple #[.int .i64 r1, .int .i64 r2]) ∧ Drawn0 w w' := by
  have HR2 := Aside0.mk hr2
  have HC2 := Aside0.mk hc2
  clear hr2 hc2
  have H : (if (l2.length : Int) > 1000 then (some (0, 2)) else ((insolvencyref1_IsDay.f a0).bind fun t125 => (if t125 = true then (if a1 < 0 then (insolvencyref1_AddDays.j0 k a0 a1 l2 true) else (insolvencyref1_AddDays.j0 k a0 a1 l2 (decide (a1 > 1048576)))) else (insolvencyref1_AddDays.j0 k a0 a1 l2 true)))) = some (r1, r2) := h
  clear h
  by_cases c4 : (l2.length : Int) > 1000
  · rw [if_pos c4] at H
    have c4b0 : decide (1000 < (l2.length : Int)) = true := decide_eq_true c4
    have c4b1 : decide (1000 < l2.length) = true := decide_eq_true (by omega)
    clear c4
    simp only [Option.some.injEq, Prod.mk.injEq] at H
    obtain ⟨rfl, rfl⟩ := H
    go_enter Try.func61, Try.ntmps61
    go_wp2
    go_ret2
    exact ⟨by first | rfl | (simp; done) | (simp [*]; done), by repeat (first | exact Drawn0.refl _ | apply Drawn0.step)⟩
  · rw [if_neg c4] at H
    have c4b0 : decide (1000 < (l2.length : Int)) = false := decide_eq_false c4
    have c4b1 : decide (1000 < l2.length) = false := decide_eq_false (by omega)
    clear c4
    have HC5 := Aside0.mk H
    clear H
    go_enter Try.func61, Try.ntmps61
    go_upto_region 3 with (fail)
    go_cut [22] (fun v22 wc => ∃ (kq : Nat) (x22_4 : Bool), v22 = .bool x22_4 ∧ Aside0 (insolvencyref1_AddDays.j0 kq a0 a1 l2 x22_4 = some (r1, r2)) ∧ Aside0 (kq ≤ k) ∧ Drawn0 w wc)
    case first =>
      have H := HC5.out
      clear HC5
      replace H := Option.bind_eq_some_iff.mp H
      obtain ⟨t125, A60, H⟩ := H
      replace H : (if t125 = true then (if a1 < 0 then (insolvencyref1_AddDays.j0 k a0 a1 l2 true) else (insolvencyref1_AddDays.j0 k a0 a1 l2 (decide (a1 > 1048576)))) else (insolvencyref1_AddDays.j0 k a0 a1 l2 true)) = some (r1, r2) := H
      have A6 := Aside0.mk A60
      clear A60
      by_cases c7 : t125 = true
      · subst c7
        have H1 : (if a1 < 0 then (insolvencyref1_AddDays.j0 k a0 a1 l2 true) else (insolvencyref1_AddDays.j0 k a0 a1 l2 (decide (a1 > 1048576)))) = some (r1, r2) := by rw [if_pos rfl] at H; exact H
        clear H
        have H := H1
        clear H1
        by_cases c8 : a1 < 0
        · rw [if_pos c8] at H
          have c8b0 : decide (a1 < 0) = true := decide_eq_true c8
          clear c8
          (first | rw [c8b0] | (simp only [i64_w, i32_w]; rw [c8b0]) | skip)
          have H' := Aside0.mk H
          clear H
          go_wp2_with (first | ((with_reducible refine gate_callee (f := 69) rfl ?_); refine goesL_ (some 13) rfl rfl Try.func69 (by kernel_rfl) rfl #[.int .i64 a0] rfl (by (try simp only [List.map_toArray, List.map_cons, List.map_nil]); first | done | rfl | (simp only [List.length_drop, List.length_take]; rfl)) ?_; (with_reducible refine (insolvencyref1_IsDay.calls a0 true _ A6.out).mono ?_); rintro e w' ⟨rfl, ⟨nd, rfl⟩⟩; refine ⟨_, rfl, ?_⟩))
          go_meet
          case rel => exact ⟨_, (true), (by first | rfl | (simp; done) | (simp [*]; done)), H', ⟨by first | omega | exact Nat.le_refl _⟩, by repeat (first | exact Drawn0.refl _ | apply Drawn0.step)⟩
        · rw [if_neg c8] at H
          have c8b0 : decide (a1 < 0) = false := decide_eq_false c8
          clear c8
          (first | rw [c8b0] | (simp only [i64_w, i32_w]; rw [c8b0]) | skip)
          have H' := Aside0.mk H
          clear H
          go_wp2_with (first | ((with_reducible refine gate_callee (f := 69) rfl ?_); refine goesL_ (some 13) rfl rfl Try.func69 (by kernel_rfl) rfl #[.int .i64 a0] rfl (by (try simp only [List.map_toArray, List.map_cons, List.map_nil]); first | done | rfl | (simp only [List.length_drop, List.length_take]; rfl)) ?_; (with_reducible refine (insolvencyref1_IsDay.calls a0 true _ A6.out).mono ?_); rintro e w' ⟨rfl, ⟨nd, rfl⟩⟩; refine ⟨_, rfl, ?_⟩))
          go_meet
          case rel => exact ⟨_, (decide (a1 > 1048576)), (by first | rfl | (simp; done) | (simp [*]; done)), H', ⟨by first | omega | exact Nat.le_refl _⟩, by repeat (first | exact Drawn0.refl _ | apply Drawn0.step)⟩
      · replace c7 := Bool.eq_false_iff.mpr c7
        subst c7
        have H1 : (insolvencyref1_AddDays.j0 k a0 a1 l2 true) = some (r1, r2) := by rw [if_neg (show ¬ (false = true) by decide)] at H; exact H
        clear H
        have H := H1
        clear H1
        have H' := Aside0.mk H
        clear H
        go_wp2_with (first | ((with_reducible refine gate_callee (f := 69) rfl ?_); refine goesL_ (some 13) rfl rfl Try.func69 (by kernel_rfl) rfl #[.int .i64 a0] rfl (by (try simp only [List.map_toArray, List.map_cons, List.map_nil]); first | done | rfl | (simp only [List.length_drop, List.length_take]; rfl)) ?_; (with_reducible refine (insolvencyref1_IsDay.calls a0 false _ A6.out).mono ?_); rintro e w' ⟨rfl, ⟨nd, rfl⟩⟩; refine ⟨_, rfl, ?_⟩))
        go_meet
        case rel => exact ⟨_, (true), (by first | rfl | (simp; done) | (simp [*]; done)), H', ⟨by first | omega | exact Nat.le_refl _⟩, by repeat (first | exact Drawn0.refl _ | apply Drawn0.step)⟩
    case rest =>
      clear HC5
      try clear c2
      try clear p2
      try clear c4
      try clear c4b0
      try clear c4b1
      try clear c6
      try clear c7
      try clear c8
      try clear c8b0
      obtain ⟨kq, x22_4, rfl, HA, HJ4, ⟨mc4, rfl⟩⟩ := hcut
      cases kq with
      | zero => exact absurd HA.out (by simp [insolvencyref1_AddDays.j0])
      | succ kj4 =>
        have H := HA.out
        clear HA
        simp only [insolvencyref1_AddDays.j0] at H
        by_cases c9 : x22_4 = true
        · subst c9
          have H1 : (some (0, 1)) = some (r1, r2) := by rw [if_pos rfl] at H; exact H
          clear H
          have H := H1
          clear H1
          simp only [Option.some.injEq, Prod.mk.injEq] at H
          obtain ⟨rfl, rfl⟩ := H
          go_wp2
          go_ret2
          exact ⟨by first | rfl | (simp; done) | (simp [*]; done), by repeat (first | exact Drawn0.refl _ | apply Drawn0.step)⟩
        · replace c9 := Bool.eq_false_iff.mpr c9
          subst c9
          have H1 : (if a1 > 0 then (insolvencyref1_AddDays.j1 kj4 a1 l2 (wrap64 (a0 + 1))) else (insolvencyref1_AddDays.j1 kj4 a1 l2 a0)) = some (r1, r2) := by rw [if_neg (show ¬ (false = true) by decide)] at H; exact H
          clear H
          have H := H1
          clear H1
          have HC10 := Aside0.mk H
          clear H
          go_upto_if 25 with (fail)
          go_cut [8] (fun v8 wc => ∃ (kq : Nat) (x8_9 : Int), v8 = .int .i64 x8_9 ∧ Aside0 (insolvencyref1_AddDays.j1 kq a1 l2 x8_9 = some (r1, r2)) ∧ Aside0 (kq ≤ kj4) ∧ Drawn0 w wc)
          case first =>
            have H := HC10.out
            clear HC10
            by_cases c11 : a1 > 0
            · rw [if_pos c11] at H
              have c11b0 : decide (0 < a1) = true := decide_eq_true c11
              clear c11
              (first | rw [c11b0] | (simp only [i64_w, i32_w]; rw [c11b0]) | skip)
              have H' := Aside0.mk H
              clear H
              go_wp2
              go_meet
              case rel => exact ⟨_, (wrap64 (a0 + 1)), (by first | rfl | (simp; done) | (simp [*]; done)), H', ⟨by have := HJ4.out; first | omega | exact Nat.le_refl _⟩, by repeat (first | exact Drawn0.refl _ | apply Drawn0.step)⟩
            · rw [if_neg c11] at H
              have c11b0 : decide (0 < a1) = false := decide_eq_false c11
              clear c11
              (first | rw [c11b0] | (simp only [i64_w, i32_w]; rw [c11b0]) | skip)
              have H' := Aside0.mk H
              clear H
              go_wp2
              go_meet
              case rel => exact ⟨_, (a0), (by first | rfl | (simp; done) | (simp [*]; done)), H', ⟨by have := HJ4.out; first | omega | exact Nat.le_refl _⟩, by repeat (first | exact Drawn0.refl _ | apply Drawn0.step)⟩
          case rest =>
            clear HC10
            try clear c1
            try clear c2
            try clear p2
            try clear c4
            try clear c4b0
            try clear c4b1
            try clear c6
            try clear p6
            try clear c7
            try clear c8
            try clear c8b0
            try clear c9
            try clear c11
            try clear c11b0
            try clear p2
            obtain ⟨kq, x8_9, rfl, HA, HJ9, ⟨mc9, rfl⟩⟩ := hcut
            cases kq with
            | zero => exact absurd HA.out (by simp [insolvencyref1_AddDays.j1])
            | succ kj9 =>
              have H := HA.out
              clear HA
              simp only [insolvencyref1_AddDays.j1] at H
              have H' := Aside0.mk H
              clear H
              go_wp2
              go_loopg [1, 8] kj9 (fun kq v1 v8 w' => ∃ (x1_3 : Int) (x8_3 : Int), v1 = .int .i64 x1_3 ∧ v8 = .int .i64 x8_3 ∧ Aside0 (insolvencyref1_AddDays.l0 kq x1_3 l2 x8_3 = some (r1, r2)) ∧ Aside0 (kq ≤ kj9) ∧ Drawn0 w w')
              case atStart => exact ⟨(a1), (x8_9), (by first | rfl | (simp; done) | (simp [*]; done)), (by first | rfl | (simp; done) | (simp [*]; done)), H', ⟨Nat.le_refl _⟩, by repeat (first | exact Drawn0.refl _ | apply Drawn0.step)⟩
              case round =>
                clear H'
                try clear c1
                try clear c2
                try clear p2
                try clear c4
                try clear c4b0
                try clear c4b1
                try clear c6
                try clear p6
                try clear c7
                try clear c8
                try clear c8b0
                try clear c9
                try clear c11
                try clear c11b0
                try clear p2
                try clear p6
                obtain ⟨x1_3, x8_3, rfl, rfl, HA, HK3, ⟨m3, rfl⟩⟩ := hrel
                cases gk with
                | zero => exact absurd HA.out (by simp [insolvencyref1_AddDays.l0])
                | succ k3 =>
                  have H := HA.out
                  clear HA
                  simp only [insolvencyref1_AddDays.l0] at H
                  by_cases c12 : x8_3 ≤ 1048576
                  · rw [if_pos c12] at H
                    have c12b0 : decide (x8_3 ≤ 1048576) = true := decide_eq_true c12
                    clear c12
                    replace H := Option.bind_eq_some_iff.mp H
                    obtain ⟨t126, A130, H⟩ := H
                    replace H : (if t126 = true then (if x1_3 ≤ 1 then (some (x8_3, 0)) else (insolvencyref1_AddDays.l0 k3 (wrap64 (x1_3 - 1)) l2 (wrap64 (x8_3 + 1)))) else (insolvencyref1_AddDays.l0 k3 x1_3 l2 (wrap64 (x8_3 + 1)))) = some (r1, r2) := H
                    have A13 := Aside0.mk A130
                    clear A130
                    by_cases c14 : t126 = true
                    · subst c14
                      have H1 : (if x1_3 ≤ 1 then (some (x8_3, 0)) else (insolvencyref1_AddDays.l0 k3 (wrap64 (x1_3 - 1)) l2 (wrap64 (x8_3 + 1)))) = some (r1, r2) := by rw [if_pos rfl] at H; exact H
                      clear H
                      have H := H1
                      clear H1
                      by_cases c15 : x1_3 ≤ 1
                      · rw [if_pos c15] at H
                        have c15b0 : decide (x1_3 ≤ 1) = true := decide_eq_true c15
                        clear c15
                        simp only [Option.some.injEq, Prod.mk.injEq] at H
                        obtain ⟨rfl, rfl⟩ := H
                        go_wp2_with (first | ((with_reducible refine gate_callee (f := 70) rfl ?_); refine goesL_ (some 34) rfl rfl Try.func70 (by kernel_rfl) rfl #[.int .i64 x8_3, .slice A2 l2.length c2] rfl (by (try simp only [List.map_toArray, List.map_cons, List.map_nil]); first | done | rfl | (simp only [List.length_drop, List.length_take]; rfl)) ?_; (with_reducible refine (insolvencyref1_IsBusiness.calls k3 x8_3 _ _ l2 true _ ?side1 ?side2 A13.out).mono ?_); (case side1 => repeat (first | exact HR2.out | (with_reducible refine Kd.C_alloc ?_ _) | (with_reducible refine Kd.C_drewN ?_ _) | (with_reducible refine Kd.C_drew ?_))); (case side2 => exact HC2.out); rintro e w' ⟨rfl, ⟨nd, rfl⟩⟩; refine ⟨_, rfl, ?_⟩))
                        go_ret2
                        exact ⟨by first | rfl | (simp; done) | (simp [*]; done), by repeat (first | exact Drawn0.refl _ | apply Drawn0.step)⟩
                      · rw [if_neg c15] at H
                        have c15b0 : decide (x1_3 ≤ 1) = false := decide_eq_false c15
                        clear c15
                        have H' := Aside0.mk H
                        clear H
                        go_wp2_with (first | ((with_reducible refine gate_callee (f := 70) rfl ?_); refine goesL_ (some 34) rfl rfl Try.func70 (by kernel_rfl) rfl #[.int .i64 x8_3, .slice A2 l2.length c2] rfl (by (try simp only [List.map_toArray, List.map_cons, List.map_nil]); first | done | rfl | (simp only [List.length_drop, List.length_take]; rfl)) ?_; (with_reducible refine (insolvencyref1_IsBusiness.calls k3 x8_3 _ _ l2 true _ ?side1 ?side2 A13.out).mono ?_); (case side1 => repeat (first | exact HR2.out | (with_reducible refine Kd.C_alloc ?_ _) | (with_reducible refine Kd.C_drewN ?_ _) | (with_reducible refine Kd.C_drew ?_))); (case side2 => exact HC2.out); rintro e w' ⟨rfl, ⟨nd, rfl⟩⟩; refine ⟨_, rfl, ?_⟩))
                        go_roundg k3
                        case measure => have := HJ4.out; have := HJ9.out; have := HK3.out; omega
                        case rel => exact ⟨(wrap64 (x1_3 - 1)), (wrap64 (x8_3 + 1)), (by first | rfl | (simp; done) | (simp [*]; done)), (by first | rfl | (simp; done) | (simp [*]; done)), H', ⟨by have := HJ4.out; have := HJ9.out; have := HK3.out; omega⟩, by repeat (first | exact Drawn0.refl _ | apply Drawn0.step)⟩
                    · replace c14 := Bool.eq_false_iff.mpr c14
                      subst c14
                      have H1 : (insolvencyref1_AddDays.l0 k3 x1_3 l2 (wrap64 (x8_3 + 1))) = some (r1, r2) := by rw [if_neg (show ¬ (false = true) by decide)] at H; exact H
                      clear H
                      have H := H1
                      clear H1
                      have H' := Aside0.mk H
                      clear H
                      go_wp2_with (first | ((with_reducible refine gate_callee (f := 70) rfl ?_); refine goesL_ (some 34) rfl rfl Try.func70 (by kernel_rfl) rfl #[.int .i64 x8_3, .slice A2 l2.length c2] rfl (by (try simp only [List.map_toArray, List.map_cons, List.map_nil]); first | done | rfl | (simp only [List.length_drop, List.length_take]; rfl)) ?_; (with_reducible refine (insolvencyref1_IsBusiness.calls k3 x8_3 _ _ l2 false _ ?side1 ?side2 A13.out).mono ?_); (case side1 => repeat (first | exact HR2.out | (with_reducible refine Kd.C_alloc ?_ _) | (with_reducible refine Kd.C_drewN ?_ _) | (with_reducible refine Kd.C_drew ?_))); (case side2 => exact HC2.out); rintro e w' ⟨rfl, ⟨nd, rfl⟩⟩; refine ⟨_, rfl, ?_⟩))
                      go_roundg k3
                      case measure => have := HJ4.out; have := HJ9.out; have := HK3.out; omega
                      case rel => exact ⟨(x1_3), (wrap64 (x8_3 + 1)), (by first | rfl | (simp; done) | (simp [*]; done)), (by first | rfl | (simp; done) | (simp [*]; done)), H', ⟨by have := HJ4.out; have := HJ9.out; have := HK3.out; omega⟩, by repeat (first | exact Drawn0.refl _ | apply Drawn0.step)⟩
                  · rw [if_neg c12] at H
                    have c12b0 : decide (x8_3 ≤ 1048576) = false := decide_eq_false c12
                    clear c12
                    simp only [Option.some.injEq, Prod.mk.injEq] at H
                    obtain ⟨rfl, rfl⟩ := H
                    go_wp2
                    go_ret2
                    exact ⟨by first | rfl | (simp; done) | (simp [*]; done), by repeat (first | exact Drawn0.refl _ | apply Drawn0.step)⟩
end Go.Proofs.Ytpfiecjacpbhkaa.F
