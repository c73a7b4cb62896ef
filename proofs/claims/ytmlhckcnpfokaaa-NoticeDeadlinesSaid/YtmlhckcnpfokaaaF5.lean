/- What the Go functions named below come to, each told as a Lean function ('.f'), with the proof ('.calls'): no condition beyond those that each theorem states. Written by a program of this session's over the translation. -/
import Derived.Test.YtmlhckcnpfokaaaF0
import Derived.Test.YtmlhckcnpfokaaaF2
import Derived.Test.YtmlhckcnpfokaaaF3
import Derived.Test.YtmlhckcnpfokaaaF4
namespace Go.Proofs.Ytmlhckcnpfokaaa.F
open Go.RowKit Go.Proofs.YtmlhckcnpfokaaaW.PrintWords Go.Proofs.YtmlhckcnpfokaaaW.PrintLast Go.Proofs.YtmlhckcnpfokaaaW.PrintMore
attribute [local go_sem] max2_int min2_int max_two min_two max_three min_three max_four min_four   -- for this text's walks alone
set_option linter.unusedVariables false
set_option linter.unusedSimpArgs false

/-! ### insolvencylaw5_CalendarMany: function 8 -/
def insolvencylaw5_CalendarMany.f (k : Nat) (a0 : Int) : Option (Bool) := if 0 ≤ (Int.tmod (wrap64 (a0)) 2000) then (if (Int.tmod (wrap64 (a0)) 2000 : Int).toNat ≤ 35184372088832 then ((some (List.replicate (Int.tmod (wrap64 (a0)) 2000 : Int).toNat 0 : List Int)).bind fun y195 => ((calendar_Next.f k 1 y195).bind fun bt198 => ((calendar_Add.f k 1 3 y195).bind fun bt200 => ((calendar_Count.f k 1 9 y195).bind fun bt202 => (if (y195.length : Int) > 1000 then ((insolvencylaw5_awake.f k).bind fun t204 => (if t204 = true then (if bt198.2 = 2 then (if bt200.2 = 2 then (some (bt202.2 == 2)) else (none)) else (none)) else (none))) else ((insolvencylaw5_awake.f k).bind fun t205 => (if t205 = true then (if bt198.2 = 0 then (if bt200.2 = 0 then (some (bt202.2 == 0)) else (none)) else (none)) else (none)))))))) else (none)) else (none)
theorem insolvencylaw5_CalendarMany.mono : ∀ a0 k, LeO (insolvencylaw5_CalendarMany.f k a0) (insolvencylaw5_CalendarMany.f (k + 1) a0) := by
  intro a0 k
  unfold insolvencylaw5_CalendarMany.f
  repeat' first
      | (with_reducible exact calendar_Add.mono _ _ _ _)
      | (with_reducible exact calendar_Count.mono _ _ _ _)
      | (with_reducible exact calendar_Next.mono _ _ _)
      | (with_reducible exact insolvencylaw5_awake.mono _)
      | (with_reducible exact LeO.refl _)
      | (with_reducible exact LeO.none _)
      | (with_reducible refine LeO.ite ?_ ?_)
      | (with_reducible refine LeO.bind ?_ (fun _ => ?_))
      | exact calendar_Add.mono _ _ _ _
      | exact calendar_Count.mono _ _ _ _
      | exact calendar_Next.mono _ _ _
      | exact insolvencylaw5_awake.mono _
      | exact LeO.none _
      | refine LeO.ite ?_ ?_
      | refine LeO.bind ?_ (fun _ => ?_)
set_option maxHeartbeats 8000000 in
set_option maxRecDepth 100000 in
theorem insolvencylaw5_CalendarMany.calls (k : Nat) (a0 : Int) (r : Bool) (w : World) (h : insolvencylaw5_CalendarMany.f k a0 = some r) :
    Calls Try.prog 8 #[.int .u16 a0] w fun e w' => e = .returned (.bool r) ∧ Below w.heap.size w w' := by
  have HB := Aside0.mk (Below.refl w.heap.size w)
  have H : (if 0 ≤ (Int.tmod (wrap64 (a0)) 2000) then (if (Int.tmod (wrap64 (a0)) 2000 : Int).toNat ≤ 35184372088832 then ((some (List.replicate (Int.tmod (wrap64 (a0)) 2000 : Int).toNat 0 : List Int)).bind fun y195 => ((calendar_Next.f k 1 y195).bind fun bt198 => ((calendar_Add.f k 1 3 y195).bind fun bt200 => ((calendar_Count.f k 1 9 y195).bind fun bt202 => (if (y195.length : Int) > 1000 then ((insolvencylaw5_awake.f k).bind fun t204 => (if t204 = true then (if bt198.2 = 2 then (if bt200.2 = 2 then (some (bt202.2 == 2)) else (none)) else (none)) else (none))) else ((insolvencylaw5_awake.f k).bind fun t205 => (if t205 = true then (if bt198.2 = 0 then (if bt200.2 = 0 then (some (bt202.2 == 0)) else (none)) else (none)) else (none)))))))) else (none)) else (none)) = some r := h
  clear h
  obtain ⟨ji2, hji2⟩ : ∃ j_ : Int, (Int.tmod (wrap64 (a0)) 2000) = j_ := ⟨_, rfl⟩
  replace H : (if 0 ≤ (ji2) then (if (ji2 : Int).toNat ≤ 35184372088832 then ((some (List.replicate (ji2 : Int).toNat 0 : List Int)).bind fun y195 => ((calendar_Next.f k 1 y195).bind fun bt198 => ((calendar_Add.f k 1 3 y195).bind fun bt200 => ((calendar_Count.f k 1 9 y195).bind fun bt202 => (if (y195.length : Int) > 1000 then ((insolvencylaw5_awake.f k).bind fun t204 => (if t204 = true then (if bt198.2 = 2 then (if bt200.2 = 2 then (some (bt202.2 == 2)) else (none)) else (none)) else (none))) else ((insolvencylaw5_awake.f k).bind fun t205 => (if t205 = true then (if bt198.2 = 0 then (if bt200.2 = 0 then (some (bt202.2 == 0)) else (none)) else (none)) else (none)))))))) else (none)) else (none)) = some r := by first | (rw [hji2] at H; exact H) | (simp only [hji2] at H ⊢; exact H)
  by_cases c3 : 0 ≤ (ji2)
  · rw [if_pos c3] at H
    have c3b0 := eq_true c3
    have c3b1 : decide (0 ≤ (ji2)) = true := decide_eq_true c3
    clear c3
    by_cases c4 : (ji2 : Int).toNat ≤ 35184372088832
    · rw [if_pos c4] at H
      have c4b0 := eq_true c4
      have c4b1 : decide ((ji2 : Int).toNat ≤ 35184372088832) = true := decide_eq_true c4
      clear c4
      obtain ⟨y195, hy195⟩ : ∃ y_ : List Int, y_ = (List.replicate (ji2 : Int).toNat 0) := ⟨_, rfl⟩
      replace H : ((calendar_Next.f k 1 y195).bind fun bt198 => ((calendar_Add.f k 1 3 y195).bind fun bt200 => ((calendar_Count.f k 1 9 y195).bind fun bt202 => (if (y195.length : Int) > 1000 then ((insolvencylaw5_awake.f k).bind fun t204 => (if t204 = true then (if bt198.2 = 2 then (if bt200.2 = 2 then (some (bt202.2 == 2)) else (none)) else (none)) else (none))) else ((insolvencylaw5_awake.f k).bind fun t205 => (if t205 = true then (if bt198.2 = 0 then (if bt200.2 = 0 then (some (bt202.2 == 0)) else (none)) else (none)) else (none))))))) = some r := by first | (rw [hy195]; with_reducible exact H) | (have H2_ := (Option.bind_some _ _).symm.trans H; rw [hy195]; with_reducible exact H2_) | (have H2_ := (Option.bind_some _ _).symm.trans H; with_reducible exact H2_) | with_reducible exact H | (rw [hy195]; exact H) | exact H
      have Ny195 := Aside0.mk hy195
      clear hy195
      replace H := Option.bind_eq_some_iff.mp H
      obtain ⟨⟨t198, t199⟩, A50, H⟩ := H
      replace H : ((calendar_Add.f k 1 3 y195).bind fun bt200 => ((calendar_Count.f k 1 9 y195).bind fun bt202 => (if (y195.length : Int) > 1000 then ((insolvencylaw5_awake.f k).bind fun t204 => (if t204 = true then (if t199 = 2 then (if bt200.2 = 2 then (some (bt202.2 == 2)) else (none)) else (none)) else (none))) else ((insolvencylaw5_awake.f k).bind fun t205 => (if t205 = true then (if t199 = 0 then (if bt200.2 = 0 then (some (bt202.2 == 0)) else (none)) else (none)) else (none)))))) = some r := H
      have A5 := Aside0.mk A50
      clear A50
      replace H := Option.bind_eq_some_iff.mp H
      obtain ⟨⟨t200, t201⟩, A60, H⟩ := H
      replace H : ((calendar_Count.f k 1 9 y195).bind fun bt202 => (if (y195.length : Int) > 1000 then ((insolvencylaw5_awake.f k).bind fun t204 => (if t204 = true then (if t199 = 2 then (if t201 = 2 then (some (bt202.2 == 2)) else (none)) else (none)) else (none))) else ((insolvencylaw5_awake.f k).bind fun t205 => (if t205 = true then (if t199 = 0 then (if t201 = 0 then (some (bt202.2 == 0)) else (none)) else (none)) else (none))))) = some r := H
      have A6 := Aside0.mk A60
      clear A60
      replace H := Option.bind_eq_some_iff.mp H
      obtain ⟨⟨t202, t203⟩, A70, H⟩ := H
      replace H : (if (y195.length : Int) > 1000 then ((insolvencylaw5_awake.f k).bind fun t204 => (if t204 = true then (if t199 = 2 then (if t201 = 2 then (some (t203 == 2)) else (none)) else (none)) else (none))) else ((insolvencylaw5_awake.f k).bind fun t205 => (if t205 = true then (if t199 = 0 then (if t201 = 0 then (some (t203 == 0)) else (none)) else (none)) else (none)))) = some r := H
      have A7 := Aside0.mk A70
      clear A70
      by_cases c8 : (y195.length : Int) > 1000
      · rw [if_pos c8] at H
        have c8b0 : decide (1000 < (y195.length : Int)) = true := decide_eq_true c8
        have c8b1 : decide (1000 < y195.length) = true := decide_eq_true (by omega)
        clear c8
        replace H := Option.bind_eq_some_iff.mp H
        obtain ⟨t204, A90, H⟩ := H
        replace H : (if t204 = true then (if t199 = 2 then (if t201 = 2 then (some (t203 == 2)) else (none)) else (none)) else (none)) = some r := H
        have A9 := Aside0.mk A90
        clear A90
        by_cases c10 : t204 = true
        · subst c10
          have H1 : (if t199 = 2 then (if t201 = 2 then (some (t203 == 2)) else (none)) else (none)) = some r := by rw [if_pos rfl] at H; exact H
          clear H
          have H := H1
          clear H1
          by_cases c11 : t199 = 2
          · rw [if_pos c11] at H
            have c11b0 : (t199 == 2) = true := beq_iff_eq.mpr c11
            have c11b1 : (t199 != 2) = false := bne_eq_false_iff_eq.mpr c11
            clear c11
            by_cases c12 : t201 = 2
            · rw [if_pos c12] at H
              have c12b0 : (t201 == 2) = true := beq_iff_eq.mpr c12
              have c12b1 : (t201 != 2) = false := bne_eq_false_iff_eq.mpr c12
              clear c12
              obtain rfl := Option.some.inj H
              go_enter Try.func8, Try.ntmps8
              go_wp2_with (first | ((with_reducible refine gate_dst (N := 13) rfl ?_); refine Kd.R_make (Kd.int .i64) _ 3 rfl (N := 13) rfl 25 _ _ rfl ji2 rfl rfl Try.underlying25 (.int .i64 0) 8 info3 rfl (by decide) (by omega) 0 (ok := fun _ => True) (okp := fun _ => True) rfl (fun _ hk => hk) trivial (of_decide_eq_true (by first | (with_reducible assumption) | assumption)) (Nat.le_trans (Nat.mul_le_mul_right _ (of_decide_eq_true (by first | (with_reducible assumption) | assumption) : ji2.toNat ≤ 35184372088832)) (by omega)) (Below.refl _ _) (Nat.le_refl _) ?_; intro v196 w13 ho14 hb hg_ hnew_; clear hg_ hnew_; (first | rw [← Ny195.out] at ho14 | (simp only [Int.reduceToNat] at ho14; rw [← Ny195.out] at ho14)); have n0_ := Aside0.mk (Kd.R_lower ho14 (below_size (by repeat (first | (with_reducible first | exact HB.out | apply below_alloc | apply pw_below_drewN | apply below_drew1) | exact HB.out)))); have n1_ := Aside0.mk (below_step (by repeat (first | (with_reducible first | exact HB.out | apply below_alloc | apply pw_below_drewN | apply below_drew1) | exact HB.out)) hb); clear HB; have HO197 := n0_; have HB := n1_; clear n0_ n1_; clear hb ho14; obtain ⟨Ao15, co15, eo15⟩ := Kd.R_slice HO197.out; subst eo15) | ((with_reducible refine gate_callee (f := 17) rfl ?_); refine goesL_ (some 16) rfl rfl Try.func17 (by kernel_rfl) rfl #[.int .i64 1, .slice Ao15 y195.length co15] rfl (by (try simp only [List.map_toArray, List.map_cons, List.map_nil]); first | done | rfl | (simp only [List.length_drop, List.length_take]; rfl)) ?_; (with_reducible refine (calendar_Next.calls k 1 _ _ y195 t198 t199 _ ?side1 ?side2 A5.out).mono ?_); (case side1 => repeat (first | exact (Kd.R_reads' HO197.out).2.2 | (with_reducible refine Kd.C_alloc ?_ _) | (with_reducible refine Kd.C_drewN ?_ _) | (with_reducible refine Kd.C_drew ?_))); (case side2 => exact (Kd.R_reads' HO197.out).2.1); rintro e w16 ⟨rfl, hb⟩; refine ⟨_, rfl, ?_⟩; have n0_ := Aside0.mk (Kd.R_below (by (with_reducible repeat (first | apply Kd.R_alloc | apply Kd.R_drewN | apply Kd.R_drew)); exact HO197.out) hb); have n1_ := Aside0.mk (below_step (by repeat (first | (with_reducible first | exact HB.out | apply below_alloc | apply pw_below_drewN | apply below_drew1) | exact HB.out)) hb); clear HO197; clear HB; have HO197 := n0_; have HB := n1_; clear n0_ n1_; (try clear hb); (try clear hb2); (try clear hk); (try clear hi)) | ((with_reducible refine gate_callee (f := 19) rfl ?_); refine goesL_ (some 21) rfl rfl Try.func19 (by kernel_rfl) rfl #[.int .i64 1, .int .i64 3, .slice Ao15 y195.length co15] rfl (by (try simp only [List.map_toArray, List.map_cons, List.map_nil]); first | done | rfl | (simp only [List.length_drop, List.length_take]; rfl)) ?_; (with_reducible refine (calendar_Add.calls k 1 3 _ _ y195 t200 t201 _ ?side1 ?side2 A6.out).mono ?_); (case side1 => repeat (first | exact (Kd.R_reads' HO197.out).2.2 | (with_reducible refine Kd.C_alloc ?_ _) | (with_reducible refine Kd.C_drewN ?_ _) | (with_reducible refine Kd.C_drew ?_))); (case side2 => exact (Kd.R_reads' HO197.out).2.1); rintro e w17 ⟨rfl, hb⟩; refine ⟨_, rfl, ?_⟩; have n0_ := Aside0.mk (Kd.R_below (by (with_reducible repeat (first | apply Kd.R_alloc | apply Kd.R_drewN | apply Kd.R_drew)); exact HO197.out) hb); have n1_ := Aside0.mk (below_step (by repeat (first | (with_reducible first | exact HB.out | apply below_alloc | apply pw_below_drewN | apply below_drew1) | exact HB.out)) hb); clear HO197; clear HB; have HO197 := n0_; have HB := n1_; clear n0_ n1_; (try clear hb); (try clear hb2); (try clear hk); (try clear hi)) | ((with_reducible refine gate_callee (f := 23) rfl ?_); refine goesL_ (some 26) rfl rfl Try.func23 (by kernel_rfl) rfl #[.int .i64 1, .int .i64 9, .slice Ao15 y195.length co15] rfl (by (try simp only [List.map_toArray, List.map_cons, List.map_nil]); first | done | rfl | (simp only [List.length_drop, List.length_take]; rfl)) ?_; (with_reducible refine (calendar_Count.calls k 1 9 _ _ y195 t202 t203 _ ?side1 ?side2 A7.out).mono ?_); (case side1 => repeat (first | exact (Kd.R_reads' HO197.out).2.2 | (with_reducible refine Kd.C_alloc ?_ _) | (with_reducible refine Kd.C_drewN ?_ _) | (with_reducible refine Kd.C_drew ?_))); (case side2 => exact (Kd.R_reads' HO197.out).2.1); rintro e w18 ⟨rfl, hb⟩; refine ⟨_, rfl, ?_⟩; have n0_ := Aside0.mk (Kd.R_below (by (with_reducible repeat (first | apply Kd.R_alloc | apply Kd.R_drewN | apply Kd.R_drew)); exact HO197.out) hb); have n1_ := Aside0.mk (below_step (by repeat (first | (with_reducible first | exact HB.out | apply below_alloc | apply pw_below_drewN | apply below_drew1) | exact HB.out)) hb); clear HO197; clear HB; have HO197 := n0_; have HB := n1_; clear n0_ n1_; (try clear hb); (try clear hb2); (try clear hk); (try clear hi)) | ((with_reducible refine gate_callee (f := 14) rfl ?_); refine goesL_ (some 32) rfl rfl Try.func14 (by kernel_rfl) rfl #[] rfl (by (try simp only [List.map_toArray, List.map_cons, List.map_nil]); first | done | rfl | (simp only [List.length_drop, List.length_take]; rfl)) ?_; (with_reducible refine (insolvencylaw5_awake.calls k  true _ A9.out).mono ?_); rintro e w19 ⟨rfl, hb⟩; refine ⟨_, rfl, ?_⟩; have n0_ := Aside0.mk (Kd.R_below (by (with_reducible repeat (first | apply Kd.R_alloc | apply Kd.R_drewN | apply Kd.R_drew)); exact HO197.out) hb); have n1_ := Aside0.mk (below_step (by repeat (first | (with_reducible first | exact HB.out | apply below_alloc | apply pw_below_drewN | apply below_drew1) | exact HB.out)) hb); clear HO197; clear HB; have HO197 := n0_; have HB := n1_; clear n0_ n1_; (try clear hb); (try clear hb2); (try clear hk); (try clear hi)))
              go_ret
              exact ⟨by first | rfl | (simp [errW_none, errW_some] <;> rfl) | (simp only [← hji2]; first | rfl | (simp [errW_none, errW_some] <;> rfl)) | (simp [*, errW_none, errW_some] <;> rfl), by repeat (first | (with_reducible first | exact HB.out | apply below_alloc | apply pw_below_drewN | apply below_drew1) | exact HB.out)⟩
            · rw [if_neg c12] at H
              exact absurd H (by simp)
          · rw [if_neg c11] at H
            exact absurd H (by simp)
        · replace c10 := Bool.eq_false_iff.mpr c10
          subst c10
          have H1 : (none) = some r := by rw [if_neg (show ¬ (false = true) by decide)] at H; exact H
          clear H
          have H := H1
          clear H1
          exact absurd H (by simp)
      · rw [if_neg c8] at H
        have c8b0 : decide (1000 < (y195.length : Int)) = false := decide_eq_false c8
        have c8b1 : decide (1000 < y195.length) = false := decide_eq_false (by omega)
        clear c8
        replace H := Option.bind_eq_some_iff.mp H
        obtain ⟨t205, A200, H⟩ := H
        replace H : (if t205 = true then (if t199 = 0 then (if t201 = 0 then (some (t203 == 0)) else (none)) else (none)) else (none)) = some r := H
        have A20 := Aside0.mk A200
        clear A200
        by_cases c21 : t205 = true
        · subst c21
          have H1 : (if t199 = 0 then (if t201 = 0 then (some (t203 == 0)) else (none)) else (none)) = some r := by rw [if_pos rfl] at H; exact H
          clear H
          have H := H1
          clear H1
          by_cases c22 : t199 = 0
          · rw [if_pos c22] at H
            have c22b0 : (t199 == 0) = true := beq_iff_eq.mpr c22
            have c22b1 : (t199 != 0) = false := bne_eq_false_iff_eq.mpr c22
            clear c22
            by_cases c23 : t201 = 0
            · rw [if_pos c23] at H
              have c23b0 : (t201 == 0) = true := beq_iff_eq.mpr c23
              have c23b1 : (t201 != 0) = false := bne_eq_false_iff_eq.mpr c23
              clear c23
              obtain rfl := Option.some.inj H
              go_enter Try.func8, Try.ntmps8
              go_wp2_with (first | ((with_reducible refine gate_dst (N := 13) rfl ?_); refine Kd.R_make (Kd.int .i64) _ 3 rfl (N := 13) rfl 25 _ _ rfl ji2 rfl rfl Try.underlying25 (.int .i64 0) 8 info3 rfl (by decide) (by omega) 0 (ok := fun _ => True) (okp := fun _ => True) rfl (fun _ hk => hk) trivial (of_decide_eq_true (by first | (with_reducible assumption) | assumption)) (Nat.le_trans (Nat.mul_le_mul_right _ (of_decide_eq_true (by first | (with_reducible assumption) | assumption) : ji2.toNat ≤ 35184372088832)) (by omega)) (Below.refl _ _) (Nat.le_refl _) ?_; intro v196 w24 ho25 hb hg_ hnew_; clear hg_ hnew_; (first | rw [← Ny195.out] at ho25 | (simp only [Int.reduceToNat] at ho25; rw [← Ny195.out] at ho25)); have n0_ := Aside0.mk (Kd.R_lower ho25 (below_size (by repeat (first | (with_reducible first | exact HB.out | apply below_alloc | apply pw_below_drewN | apply below_drew1) | exact HB.out)))); have n1_ := Aside0.mk (below_step (by repeat (first | (with_reducible first | exact HB.out | apply below_alloc | apply pw_below_drewN | apply below_drew1) | exact HB.out)) hb); clear HB; have HO197 := n0_; have HB := n1_; clear n0_ n1_; clear hb ho25; obtain ⟨Ao26, co26, eo26⟩ := Kd.R_slice HO197.out; subst eo26) | ((with_reducible refine gate_callee (f := 17) rfl ?_); refine goesL_ (some 16) rfl rfl Try.func17 (by kernel_rfl) rfl #[.int .i64 1, .slice Ao26 y195.length co26] rfl (by (try simp only [List.map_toArray, List.map_cons, List.map_nil]); first | done | rfl | (simp only [List.length_drop, List.length_take]; rfl)) ?_; (with_reducible refine (calendar_Next.calls k 1 _ _ y195 t198 t199 _ ?side1 ?side2 A5.out).mono ?_); (case side1 => repeat (first | exact (Kd.R_reads' HO197.out).2.2 | (with_reducible refine Kd.C_alloc ?_ _) | (with_reducible refine Kd.C_drewN ?_ _) | (with_reducible refine Kd.C_drew ?_))); (case side2 => exact (Kd.R_reads' HO197.out).2.1); rintro e w27 ⟨rfl, hb⟩; refine ⟨_, rfl, ?_⟩; have n0_ := Aside0.mk (Kd.R_below (by (with_reducible repeat (first | apply Kd.R_alloc | apply Kd.R_drewN | apply Kd.R_drew)); exact HO197.out) hb); have n1_ := Aside0.mk (below_step (by repeat (first | (with_reducible first | exact HB.out | apply below_alloc | apply pw_below_drewN | apply below_drew1) | exact HB.out)) hb); clear HO197; clear HB; have HO197 := n0_; have HB := n1_; clear n0_ n1_; (try clear hb); (try clear hb2); (try clear hk); (try clear hi)) | ((with_reducible refine gate_callee (f := 19) rfl ?_); refine goesL_ (some 21) rfl rfl Try.func19 (by kernel_rfl) rfl #[.int .i64 1, .int .i64 3, .slice Ao26 y195.length co26] rfl (by (try simp only [List.map_toArray, List.map_cons, List.map_nil]); first | done | rfl | (simp only [List.length_drop, List.length_take]; rfl)) ?_; (with_reducible refine (calendar_Add.calls k 1 3 _ _ y195 t200 t201 _ ?side1 ?side2 A6.out).mono ?_); (case side1 => repeat (first | exact (Kd.R_reads' HO197.out).2.2 | (with_reducible refine Kd.C_alloc ?_ _) | (with_reducible refine Kd.C_drewN ?_ _) | (with_reducible refine Kd.C_drew ?_))); (case side2 => exact (Kd.R_reads' HO197.out).2.1); rintro e w28 ⟨rfl, hb⟩; refine ⟨_, rfl, ?_⟩; have n0_ := Aside0.mk (Kd.R_below (by (with_reducible repeat (first | apply Kd.R_alloc | apply Kd.R_drewN | apply Kd.R_drew)); exact HO197.out) hb); have n1_ := Aside0.mk (below_step (by repeat (first | (with_reducible first | exact HB.out | apply below_alloc | apply pw_below_drewN | apply below_drew1) | exact HB.out)) hb); clear HO197; clear HB; have HO197 := n0_; have HB := n1_; clear n0_ n1_; (try clear hb); (try clear hb2); (try clear hk); (try clear hi)) | ((with_reducible refine gate_callee (f := 23) rfl ?_); refine goesL_ (some 26) rfl rfl Try.func23 (by kernel_rfl) rfl #[.int .i64 1, .int .i64 9, .slice Ao26 y195.length co26] rfl (by (try simp only [List.map_toArray, List.map_cons, List.map_nil]); first | done | rfl | (simp only [List.length_drop, List.length_take]; rfl)) ?_; (with_reducible refine (calendar_Count.calls k 1 9 _ _ y195 t202 t203 _ ?side1 ?side2 A7.out).mono ?_); (case side1 => repeat (first | exact (Kd.R_reads' HO197.out).2.2 | (with_reducible refine Kd.C_alloc ?_ _) | (with_reducible refine Kd.C_drewN ?_ _) | (with_reducible refine Kd.C_drew ?_))); (case side2 => exact (Kd.R_reads' HO197.out).2.1); rintro e w29 ⟨rfl, hb⟩; refine ⟨_, rfl, ?_⟩; have n0_ := Aside0.mk (Kd.R_below (by (with_reducible repeat (first | apply Kd.R_alloc | apply Kd.R_drewN | apply Kd.R_drew)); exact HO197.out) hb); have n1_ := Aside0.mk (below_step (by repeat (first | (with_reducible first | exact HB.out | apply below_alloc | apply pw_below_drewN | apply below_drew1) | exact HB.out)) hb); clear HO197; clear HB; have HO197 := n0_; have HB := n1_; clear n0_ n1_; (try clear hb); (try clear hb2); (try clear hk); (try clear hi)) | ((with_reducible refine gate_callee (f := 14) rfl ?_); refine goesL_ (some 45) rfl rfl Try.func14 (by kernel_rfl) rfl #[] rfl (by (try simp only [List.map_toArray, List.map_cons, List.map_nil]); first | done | rfl | (simp only [List.length_drop, List.length_take]; rfl)) ?_; (with_reducible refine (insolvencylaw5_awake.calls k  true _ A20.out).mono ?_); rintro e w30 ⟨rfl, hb⟩; refine ⟨_, rfl, ?_⟩; have n0_ := Aside0.mk (Kd.R_below (by (with_reducible repeat (first | apply Kd.R_alloc | apply Kd.R_drewN | apply Kd.R_drew)); exact HO197.out) hb); have n1_ := Aside0.mk (below_step (by repeat (first | (with_reducible first | exact HB.out | apply below_alloc | apply pw_below_drewN | apply below_drew1) | exact HB.out)) hb); clear HO197; clear HB; have HO197 := n0_; have HB := n1_; clear n0_ n1_; (try clear hb); (try clear hb2); (try clear hk); (try clear hi)))
              go_ret
              exact ⟨by first | rfl | (simp [errW_none, errW_some] <;> rfl) | (simp only [← hji2]; first | rfl | (simp [errW_none, errW_some] <;> rfl)) | (simp [*, errW_none, errW_some] <;> rfl), by repeat (first | (with_reducible first | exact HB.out | apply below_alloc | apply pw_below_drewN | apply below_drew1) | exact HB.out)⟩
            · rw [if_neg c23] at H
              exact absurd H (by simp)
          · rw [if_neg c22] at H
            exact absurd H (by simp)
        · replace c21 := Bool.eq_false_iff.mpr c21
          subst c21
          have H1 : (none) = some r := by rw [if_neg (show ¬ (false = true) by decide)] at H; exact H
          clear H
          have H := H1
          clear H1
          exact absurd H (by simp)
    · rw [if_neg c4] at H
      exact absurd H (by simp)
  · rw [if_neg c3] at H
    exact absurd H (by simp)

/-- THE ONE PURE STATEMENT of insolvencylaw5_CalendarMany: yours. -/
def insolvencylaw5_CalendarMany.Pure : Prop := ∀ (a0 : Int), (Lit.int .u16 a0).wf = true → ∃ k, insolvencylaw5_CalendarMany.f k a0 = some true
theorem insolvencylaw5_CalendarMany.walk (P : insolvencylaw5_CalendarMany.Pure) (a0 : Int) (w : World) (w0 : (Lit.int .u16 a0).wf = true) :
    Calls Try.prog 8 #[.int .u16 a0] w fun e w' => e = .returned (.bool true) ∧ Below w.heap.size w w' := by
  obtain ⟨k, h⟩ := P a0 w0
  refine (insolvencylaw5_CalendarMany.calls k a0 true w h).mono ?_
  rintro e w' ⟨rfl, hd⟩
  exact ⟨rfl, hd⟩

/-! ### insolvencylaw5_CalendarSplit: function 9 -/
def insolvencylaw5_CalendarSplit.l0 : Nat → Int → Int → Int → List Int → List Int → Int → Option (Bool)
  | 0, _, _, _, _, _, _ => none
  | k + 1, x0, x1, x2, x9, x10, x11 => if x11 ≥ 0 then (if 0 ≤ x11 then (if x11 < (x9.length : Int) then (if x10.length < 17592186044416 then (insolvencylaw5_CalendarSplit.l0 k x0 x1 x2 x9 (x10 ++ [rd x9 x11]) (wrap64 (x11 - 1))) else (none)) else (none)) else (none)) else ((calendar_Count.f k (wrap64 (x0)) (wrap64 ((wrap64 (x0)) + (wrap64 (x1)))) x9).bind fun bt213 => ((calendar_Count.f k (wrap64 ((wrap64 (x0)) + (wrap64 (x1)))) (wrap64 ((wrap64 ((wrap64 (x0)) + (wrap64 (x1)))) + (wrap64 (x2)))) x10).bind fun bt215 => ((calendar_Count.f k (wrap64 (x0)) (wrap64 ((wrap64 ((wrap64 (x0)) + (wrap64 (x1)))) + (wrap64 (x2)))) x9).bind fun bt217 => ((calendar_Count.f k (wrap64 ((wrap64 ((wrap64 (x0)) + (wrap64 (x1)))) + (wrap64 (x2)))) (wrap64 (x0)) x9).bind fun bt219 => ((insolvencylaw5_awake.f k).bind fun t221 => (if t221 = true then (if bt213.2 = 0 then (if bt215.2 = 0 then (if bt217.2 = 0 then (if bt219.2 = 0 then (if (wrap64 (bt213.1 + bt215.1)) = bt217.1 then (if bt219.1 = 0 then (some true) else (some ((wrap64 ((wrap64 ((wrap64 (x0)) + (wrap64 (x1)))) + (wrap64 (x2)))) == (wrap64 (x0))))) else (none)) else (none)) else (none)) else (none)) else (none)) else (none)))))))
def insolvencylaw5_CalendarSplit.f (k : Nat) (a0 : Int) (a1 : Int) (a2 : Int) (l3 : List Int) : Option (Bool) := (insolvencylaw5_days.f k l3).bind fun t206 => (insolvencylaw5_CalendarSplit.l0 k a0 a1 a2 t206 ([] : List Int) (wrap64 ((t206.length : Int) - 1)))
theorem insolvencylaw5_CalendarSplit.mono_l : ∀ k, (∀ y0 y1 y2 y3 y4 y5, LeO (insolvencylaw5_CalendarSplit.l0 k y0 y1 y2 y3 y4 y5) (insolvencylaw5_CalendarSplit.l0 (k + 1) y0 y1 y2 y3 y4 y5))
  | 0 => fun _ _ _ _ _ _ r h => by simp [insolvencylaw5_CalendarSplit.l0] at h
  | k + 1 => by
    have ih0 := insolvencylaw5_CalendarSplit.mono_l k
    · intro y0 y1 y2 y3 y4 y5
      unfold insolvencylaw5_CalendarSplit.l0
      repeat' first
      | (with_reducible exact ih0 _ _ _ _ _ _)
      | (with_reducible exact calendar_Count.mono _ _ _ _)
      | (with_reducible exact insolvencylaw5_awake.mono _)
      | (with_reducible exact insolvencylaw5_days.mono _ _)
      | (with_reducible exact LeO.refl _)
      | (with_reducible exact LeO.none _)
      | (with_reducible refine LeO.ite ?_ ?_)
      | (with_reducible refine LeO.bind ?_ (fun _ => ?_))
      | exact ih0 _ _ _ _ _ _
      | exact calendar_Count.mono _ _ _ _
      | exact insolvencylaw5_awake.mono _
      | exact insolvencylaw5_days.mono _ _
      | exact LeO.none _
      | refine LeO.ite ?_ ?_
      | refine LeO.bind ?_ (fun _ => ?_)
theorem insolvencylaw5_CalendarSplit.mono : ∀ a0 a1 a2 a3 k, LeO (insolvencylaw5_CalendarSplit.f k a0 a1 a2 a3) (insolvencylaw5_CalendarSplit.f (k + 1) a0 a1 a2 a3) := by
  intro a0 a1 a2 a3 k
  have ih0 := insolvencylaw5_CalendarSplit.mono_l k
  unfold insolvencylaw5_CalendarSplit.f
  repeat' first
      | (with_reducible exact ih0 _ _ _ _ _ _)
      | (with_reducible exact calendar_Count.mono _ _ _ _)
      | (with_reducible exact insolvencylaw5_awake.mono _)
      | (with_reducible exact insolvencylaw5_days.mono _ _)
      | (with_reducible exact LeO.refl _)
      | (with_reducible exact LeO.none _)
      | (with_reducible refine LeO.ite ?_ ?_)
      | (with_reducible refine LeO.bind ?_ (fun _ => ?_))
      | exact ih0 _ _ _ _ _ _
      | exact calendar_Count.mono _ _ _ _
      | exact insolvencylaw5_awake.mono _
      | exact insolvencylaw5_days.mono _ _
      | exact LeO.none _
      | refine LeO.ite ?_ ?_
      | refine LeO.bind ?_ (fun _ => ?_)
set_option maxHeartbeats 8000000 in
set_option maxRecDepth 100000 in
theorem insolvencylaw5_CalendarSplit.calls (k : Nat) (a0 : Int) (a1 : Int) (a2 : Int) (A3 : Option Addr) (c3 : Nat) (l3 : List Int) (r : Bool) (w : World) (hr3 : Kd.C (Kd.int .u8) w A3 l3.length l3) (hc3 : l3.length ≤ c3) (h : insolvencylaw5_CalendarSplit.f k a0 a1 a2 l3 = some r) :
    Calls Try.prog 9 #[.int .u8 a0, .int .u8 a1, .int .u8 a2, .slice A3 l3.length c3] w fun e w' => e = .returned (.bool r) ∧ Below w.heap.size w w' := by
  have HR3 := Aside0.mk hr3
  have HC3 := Aside0.mk hc3
  clear hr3 hc3
  have HB := Aside0.mk (Below.refl w.heap.size w)
  have H : ((insolvencylaw5_days.f k l3).bind fun t206 => (insolvencylaw5_CalendarSplit.l0 k a0 a1 a2 t206 ([] : List Int) (wrap64 ((t206.length : Int) - 1)))) = some r := h
  clear h
  replace H := Option.bind_eq_some_iff.mp H
  obtain ⟨t206, A50, H⟩ := H
  replace H : (insolvencylaw5_CalendarSplit.l0 k a0 a1 a2 t206 ([] : List Int) (wrap64 ((t206.length : Int) - 1))) = some r := H
  have A5 := Aside0.mk A50
  clear A50
  have H' := Aside0.mk H
  clear H
  go_enter Try.func9, Try.ntmps9
  go_wp2_with (first | ((with_reducible refine gate_callee (f := 21) rfl ?_); refine goesL_ (some 24) rfl rfl Try.func21 (by kernel_rfl) rfl #[.slice A3 l3.length c3] rfl (by (try simp only [List.map_toArray, List.map_cons, List.map_nil]); first | done | rfl | (simp only [List.length_drop, List.length_take]; rfl)) ?_; (with_reducible refine (insolvencylaw5_days.calls k _ _ l3 t206 _ ?side1 ?side2 A5.out).mono ?_); (case side1 => repeat (first | exact HR3.out | (with_reducible refine Kd.C_alloc ?_ _) | (with_reducible refine Kd.C_drewN ?_ _) | (with_reducible refine Kd.C_drew ?_))); (case side2 => exact HC3.out); rintro e w6 ⟨v207, rfl, ho0, hb⟩; refine ⟨_, rfl, ?_⟩; have n0_ := Aside0.mk (Kd.R_lower ho0 (below_size (by repeat (first | (with_reducible first | exact HB.out | apply below_alloc | apply pw_below_drewN | apply below_drew1) | exact HB.out)))); have n1_ := Aside0.mk (below_step (by repeat (first | (with_reducible first | exact HB.out | apply below_alloc | apply pw_below_drewN | apply below_drew1) | exact HB.out)) hb); clear HB; have HO208 := n0_; have HB := n1_; clear n0_ n1_; (try clear hb); (try clear hb2); (try clear hk); (try clear hi); (try clear ho0); obtain ⟨Ao7, co7, eo7⟩ := Kd.R_slice HO208.out; subst eo7))
  go_loopg [10, 11] k (fun kq v10 v11 w' => ∃ (x10_1 : List Int) (x11_1 : Int), v11 = .int .i64 x11_1 ∧ Aside0 (insolvencylaw5_CalendarSplit.l0 kq a0 a1 a2 t206 x10_1 x11_1 = some r) ∧ Aside0 (kq ≤ k) ∧ Aside0 (Kd.R (Kd.int .i64) 3 w' w.heap.size (fun k_ => some k_ ≠ (v10 : Value).ownBlock) (.slice Ao7 t206.length co7) t206) ∧ Aside0 (Kd.R (Kd.int .i64) 3 w' w.heap.size (fun k_ => some k_ ≠ ((.slice Ao7 t206.length co7) : Value).ownBlock) v10 x10_1) ∧ Aside0 (Below w.heap.size w w'))
  case atStart => exact ⟨(([] : List Int)), (wrap64 ((t206.length : Int) - 1)), (by first | rfl | (simp; done) | (simp [*]; done)), H', ⟨Nat.le_refl _⟩, ⟨by (with_reducible repeat (first | apply Kd.R_alloc | apply Kd.R_drewN | apply Kd.R_drew)); exact Kd.R_mono HO208.out (fun _ hk => (by simp [Value.ownBlock]))⟩, ⟨by first | exact Kd.R_nil _ _ _ _ _ | exact Kd.N_nil _ _ _ _ _ | exact Kd.V_nil _ _ _ _ _ | exact Kd.Q_nil _ _ _ _ _ | exact Kd.S_nil _ _ _ _ _⟩, ⟨by repeat (first | (with_reducible first | exact HB.out | apply below_alloc | apply pw_below_drewN | apply below_drew1) | exact HB.out)⟩⟩
  case round =>
    clear H'
    try clear c2
    try clear p2
    try clear c3
    try clear p6
    obtain ⟨x10_1, x11_1, rfl, HA, HK1, HO_9, HO_10, HB⟩ := hrel
    cases gk with
    | zero => exact absurd HA.out (by simp [insolvencylaw5_CalendarSplit.l0])
    | succ k1 =>
      have H := HA.out
      clear HA
      simp only [insolvencylaw5_CalendarSplit.l0] at H
      by_cases c8 : x11_1 ≥ 0
      · rw [if_pos c8] at H
        have c8b0 : decide (0 ≤ x11_1) = true := decide_eq_true c8
        clear c8
        by_cases c9 : 0 ≤ x11_1
        · rw [if_pos c9] at H
          have c9b0 : decide (0 ≤ x11_1) = true := decide_eq_true c9
          clear c9
          by_cases c10 : x11_1 < (t206.length : Int)
          · rw [if_pos c10] at H
            have c10b0 : decide (x11_1 < (t206.length : Int)) = true := decide_eq_true c10
            clear c10
            by_cases c11 : x10_1.length < 17592186044416
            · rw [if_pos c11] at H
              have LMc11 := Aside0.mk c11
              clear c11
              obtain ⟨y210, hy210⟩ : ∃ y_ : List Int, y_ = (x10_1 ++ [rd t206 x11_1]) := ⟨_, rfl⟩
              replace H : (insolvencylaw5_CalendarSplit.l0 k1 a0 a1 a2 t206 y210 (wrap64 (x11_1 - 1))) = some r := by first | (rw [hy210]; with_reducible exact H) | (have H2_ := (Option.bind_some _ _).symm.trans H; rw [hy210]; with_reducible exact H2_) | (have H2_ := (Option.bind_some _ _).symm.trans H; with_reducible exact H2_) | with_reducible exact H | (rw [hy210]; exact H) | exact H
              have Ny210 := Aside0.mk hy210
              clear hy210
              have H' := Aside0.mk H
              clear H
              have p209 : 0 ≤ (x11_1 : Int) := of_decide_eq_true (by first | (with_reducible assumption) | assumption)
              have q209 : x11_1 < (t206.length : Int) := of_decide_eq_true (by first | (with_reducible assumption) | assumption)
              obtain ⟨ad209, e209, hx209_0⟩ := Kd.at_int (Kd.R_reads' HO_9.out).2.2 x11_1 p209 q209
              cases e209
              replace p209 := eq_true p209
              replace q209 := eq_true q209
              go_wp2_with (first | ((with_reducible refine gate_builtin (b := .append) (xs := #[.tmp 32, .tmp 37]) rfl ?_); at_builtin; refine Kd.R_append (Kd.int .i64) (w0 := w) w.heap.size rfl (.tmp 32) (.tmp 37) 25 3 (.int .i64 0) 8 rfl Try.underlying25 info3 rfl (by decide) (by omega) u10 x10_1 (rd t206 x11_1) [.int .i64 (rd t206 x11_1)] (fun k_ => some k_ ≠ (.slice (some ad209) t206.length co7 : Value).ownBlock) (fun _ => False) rfl rfl ?aP (fun _ hk => hk.elim) ?aF ?aO ?aB ?aS ?aL ?_; (case aP => exact rfl); (case aB => exact (by repeat (first | (with_reducible first | exact HB.out | apply below_alloc | apply pw_below_drewN | apply below_drew1) | exact HB.out))); (case aF => exact (fun k_ hk => Kd.fresh' (Kd.R_lt (by (with_reducible repeat (first | apply Kd.R_alloc | apply Kd.R_drewN | apply Kd.R_drew)); exact HO_9.out)) k_ hk)); (case aO => exact (by (with_reducible repeat (first | apply Kd.R_alloc | apply Kd.R_drewN | apply Kd.R_drew)); exact HO_10.out)); (case aS => exact (below_size (by repeat (first | (with_reducible first | exact HB.out | apply below_alloc | apply pw_below_drewN | apply below_drew1) | exact HB.out)))); (case aL => have := LMc11.out; omega); intro v211 w12 ho hb hg hat; rw [← Ny210.out] at ho; have n0_ := Aside0.mk (Kd.R_after (ok := (fun _ => True)) (by (with_reducible repeat (first | apply Kd.R_alloc | apply Kd.R_drewN | apply Kd.R_drew)); exact Kd.R_mono HO_9.out (fun _ hk => ⟨trivial, hk⟩)) hg hat); have n1_ := Aside0.mk (hb); have n2_ := Aside0.mk (ho); clear HO_9; clear HB; clear HO_10; have HO_9 := n0_; have HB := n1_; have HO212 := n2_; clear n0_ n1_ n2_; clear ho hb hg hat))
              go_roundg k1
              case measure => have := HK1.out; omega
              case rel => exact ⟨(y210), (wrap64 (x11_1 - 1)), (by first | rfl | (simp; done) | (simp [*]; done)), H', ⟨by have := HK1.out; omega⟩, ⟨by (with_reducible repeat (first | apply Kd.R_alloc | apply Kd.R_drewN | apply Kd.R_drew)); exact Kd.R_mono HO_9.out (fun _ hk => hk.2)⟩, ⟨by (with_reducible repeat (first | apply Kd.R_alloc | apply Kd.R_drewN | apply Kd.R_drew)); exact HO212.out⟩, ⟨by repeat (first | (with_reducible first | exact HB.out | apply below_alloc | apply pw_below_drewN | apply below_drew1) | exact HB.out)⟩⟩
            · rw [if_neg c11] at H
              exact absurd H (by simp)
          · rw [if_neg c10] at H
            exact absurd H (by simp)
        · rw [if_neg c9] at H
          exact absurd H (by simp)
      · rw [if_neg c8] at H
        have c8b0 : decide (0 ≤ x11_1) = false := decide_eq_false c8
        clear c8
        replace H := Option.bind_eq_some_iff.mp H
        obtain ⟨⟨t213, t214⟩, A130, H⟩ := H
        replace H : ((calendar_Count.f k1 (wrap64 ((wrap64 (a0)) + (wrap64 (a1)))) (wrap64 ((wrap64 ((wrap64 (a0)) + (wrap64 (a1)))) + (wrap64 (a2)))) x10_1).bind fun bt215 => ((calendar_Count.f k1 (wrap64 (a0)) (wrap64 ((wrap64 ((wrap64 (a0)) + (wrap64 (a1)))) + (wrap64 (a2)))) t206).bind fun bt217 => ((calendar_Count.f k1 (wrap64 ((wrap64 ((wrap64 (a0)) + (wrap64 (a1)))) + (wrap64 (a2)))) (wrap64 (a0)) t206).bind fun bt219 => ((insolvencylaw5_awake.f k1).bind fun t221 => (if t221 = true then (if t214 = 0 then (if bt215.2 = 0 then (if bt217.2 = 0 then (if bt219.2 = 0 then (if (wrap64 (t213 + bt215.1)) = bt217.1 then (if bt219.1 = 0 then (some true) else (some ((wrap64 ((wrap64 ((wrap64 (a0)) + (wrap64 (a1)))) + (wrap64 (a2)))) == (wrap64 (a0))))) else (none)) else (none)) else (none)) else (none)) else (none)) else (none)))))) = some r := H
        have A13 := Aside0.mk A130
        clear A130
        replace H := Option.bind_eq_some_iff.mp H
        obtain ⟨⟨t215, t216⟩, A140, H⟩ := H
        replace H : ((calendar_Count.f k1 (wrap64 (a0)) (wrap64 ((wrap64 ((wrap64 (a0)) + (wrap64 (a1)))) + (wrap64 (a2)))) t206).bind fun bt217 => ((calendar_Count.f k1 (wrap64 ((wrap64 ((wrap64 (a0)) + (wrap64 (a1)))) + (wrap64 (a2)))) (wrap64 (a0)) t206).bind fun bt219 => ((insolvencylaw5_awake.f k1).bind fun t221 => (if t221 = true then (if t214 = 0 then (if t216 = 0 then (if bt217.2 = 0 then (if bt219.2 = 0 then (if (wrap64 (t213 + t215)) = bt217.1 then (if bt219.1 = 0 then (some true) else (some ((wrap64 ((wrap64 ((wrap64 (a0)) + (wrap64 (a1)))) + (wrap64 (a2)))) == (wrap64 (a0))))) else (none)) else (none)) else (none)) else (none)) else (none)) else (none))))) = some r := H
        have A14 := Aside0.mk A140
        clear A140
        replace H := Option.bind_eq_some_iff.mp H
        obtain ⟨⟨t217, t218⟩, A150, H⟩ := H
        replace H : ((calendar_Count.f k1 (wrap64 ((wrap64 ((wrap64 (a0)) + (wrap64 (a1)))) + (wrap64 (a2)))) (wrap64 (a0)) t206).bind fun bt219 => ((insolvencylaw5_awake.f k1).bind fun t221 => (if t221 = true then (if t214 = 0 then (if t216 = 0 then (if t218 = 0 then (if bt219.2 = 0 then (if (wrap64 (t213 + t215)) = t217 then (if bt219.1 = 0 then (some true) else (some ((wrap64 ((wrap64 ((wrap64 (a0)) + (wrap64 (a1)))) + (wrap64 (a2)))) == (wrap64 (a0))))) else (none)) else (none)) else (none)) else (none)) else (none)) else (none)))) = some r := H
        have A15 := Aside0.mk A150
        clear A150
        replace H := Option.bind_eq_some_iff.mp H
        obtain ⟨⟨t219, t220⟩, A160, H⟩ := H
        replace H : ((insolvencylaw5_awake.f k1).bind fun t221 => (if t221 = true then (if t214 = 0 then (if t216 = 0 then (if t218 = 0 then (if t220 = 0 then (if (wrap64 (t213 + t215)) = t217 then (if t219 = 0 then (some true) else (some ((wrap64 ((wrap64 ((wrap64 (a0)) + (wrap64 (a1)))) + (wrap64 (a2)))) == (wrap64 (a0))))) else (none)) else (none)) else (none)) else (none)) else (none)) else (none))) = some r := H
        have A16 := Aside0.mk A160
        clear A160
        replace H := Option.bind_eq_some_iff.mp H
        obtain ⟨t221, A170, H⟩ := H
        replace H : (if t221 = true then (if t214 = 0 then (if t216 = 0 then (if t218 = 0 then (if t220 = 0 then (if (wrap64 (t213 + t215)) = t217 then (if t219 = 0 then (some true) else (some ((wrap64 ((wrap64 ((wrap64 (a0)) + (wrap64 (a1)))) + (wrap64 (a2)))) == (wrap64 (a0))))) else (none)) else (none)) else (none)) else (none)) else (none)) else (none)) = some r := H
        have A17 := Aside0.mk A170
        clear A170
        by_cases c18 : t221 = true
        · subst c18
          have H1 : (if t214 = 0 then (if t216 = 0 then (if t218 = 0 then (if t220 = 0 then (if (wrap64 (t213 + t215)) = t217 then (if t219 = 0 then (some true) else (some ((wrap64 ((wrap64 ((wrap64 (a0)) + (wrap64 (a1)))) + (wrap64 (a2)))) == (wrap64 (a0))))) else (none)) else (none)) else (none)) else (none)) else (none)) = some r := by rw [if_pos rfl] at H; exact H
          clear H
          have H := H1
          clear H1
          by_cases c19 : t214 = 0
          · rw [if_pos c19] at H
            have c19b0 : (t214 == 0) = true := beq_iff_eq.mpr c19
            have c19b1 : (t214 != 0) = false := bne_eq_false_iff_eq.mpr c19
            clear c19
            by_cases c20 : t216 = 0
            · rw [if_pos c20] at H
              have c20b0 : (t216 == 0) = true := beq_iff_eq.mpr c20
              have c20b1 : (t216 != 0) = false := bne_eq_false_iff_eq.mpr c20
              clear c20
              by_cases c21 : t218 = 0
              · rw [if_pos c21] at H
                have c21b0 : (t218 == 0) = true := beq_iff_eq.mpr c21
                have c21b1 : (t218 != 0) = false := bne_eq_false_iff_eq.mpr c21
                clear c21
                by_cases c22 : t220 = 0
                · rw [if_pos c22] at H
                  have c22b0 : (t220 == 0) = true := beq_iff_eq.mpr c22
                  have c22b1 : (t220 != 0) = false := bne_eq_false_iff_eq.mpr c22
                  clear c22
                  by_cases c23 : (wrap64 (t213 + t215)) = t217
                  · rw [if_pos c23] at H
                    have c23b0 : ((wrap64 (t213 + t215)) == t217) = true := beq_iff_eq.mpr c23
                    have c23b1 : ((wrap64 (t213 + t215)) != t217) = false := bne_eq_false_iff_eq.mpr c23
                    clear c23
                    by_cases c24 : t219 = 0
                    · rw [if_pos c24] at H
                      have c24b0 : (t219 == 0) = true := beq_iff_eq.mpr c24
                      have c24b1 : (t219 != 0) = false := bne_eq_false_iff_eq.mpr c24
                      clear c24
                      obtain rfl := Option.some.inj H
                      go_wp2_with (first | ((with_reducible refine gate_callee (f := 23) rfl ?_); refine goesL_ (some 58) rfl rfl Try.func23 (by kernel_rfl) rfl #[.int .i64 (wrap64 (a0)), .int .i64 (wrap64 ((wrap64 (a0)) + (wrap64 (a1)))), .slice Ao7 t206.length co7] rfl (by (try simp only [List.map_toArray, List.map_cons, List.map_nil]); first | done | rfl | (simp only [List.length_drop, List.length_take]; rfl)) ?_; (with_reducible refine (calendar_Count.calls k1 (wrap64 (a0)) (wrap64 ((wrap64 (a0)) + (wrap64 (a1)))) _ _ t206 t213 t214 _ ?side1 ?side2 A13.out).mono ?_); (case side1 => repeat (first | exact (Kd.R_reads' HO_9.out).2.2 | (with_reducible refine Kd.C_alloc ?_ _) | (with_reducible refine Kd.C_drewN ?_ _) | (with_reducible refine Kd.C_drew ?_))); (case side2 => exact (Kd.R_reads' HO_9.out).2.1); rintro e w25 ⟨rfl, hb⟩; refine ⟨_, rfl, ?_⟩; have n0_ := Aside0.mk (Kd.R_below (by (with_reducible repeat (first | apply Kd.R_alloc | apply Kd.R_drewN | apply Kd.R_drew)); exact HO_9.out) hb); have n1_ := Aside0.mk (Kd.R_below (by (with_reducible repeat (first | apply Kd.R_alloc | apply Kd.R_drewN | apply Kd.R_drew)); exact HO_10.out) hb); have n2_ := Aside0.mk (below_step (by repeat (first | (with_reducible first | exact HB.out | apply below_alloc | apply pw_below_drewN | apply below_drew1) | exact HB.out)) hb); clear HO_9; clear HO_10; clear HB; have HO_9 := n0_; have HO_10 := n1_; have HB := n2_; clear n0_ n1_ n2_; (try clear hb); (try clear hb2); (try clear hk); (try clear hi); obtain ⟨Ao26, co26, eo26⟩ := Kd.R_slice HO_10.out; subst eo26) | ((with_reducible refine gate_callee (f := 23) rfl ?_); refine goesL_ (some 65) rfl rfl Try.func23 (by kernel_rfl) rfl #[.int .i64 (wrap64 ((wrap64 (a0)) + (wrap64 (a1)))), .int .i64 (wrap64 ((wrap64 ((wrap64 (a0)) + (wrap64 (a1)))) + (wrap64 (a2)))), .slice Ao26 x10_1.length co26] rfl (by (try simp only [List.map_toArray, List.map_cons, List.map_nil]); first | done | rfl | (simp only [List.length_drop, List.length_take]; rfl)) ?_; (with_reducible refine (calendar_Count.calls k1 (wrap64 ((wrap64 (a0)) + (wrap64 (a1)))) (wrap64 ((wrap64 ((wrap64 (a0)) + (wrap64 (a1)))) + (wrap64 (a2)))) _ _ x10_1 t215 t216 _ ?side1 ?side2 A14.out).mono ?_); (case side1 => repeat (first | exact (Kd.R_reads' HO_10.out).2.2 | (with_reducible refine Kd.C_alloc ?_ _) | (with_reducible refine Kd.C_drewN ?_ _) | (with_reducible refine Kd.C_drew ?_))); (case side2 => exact (Kd.R_reads' HO_10.out).2.1); rintro e w27 ⟨rfl, hb⟩; refine ⟨_, rfl, ?_⟩; have n0_ := Aside0.mk (Kd.R_below (by (with_reducible repeat (first | apply Kd.R_alloc | apply Kd.R_drewN | apply Kd.R_drew)); exact HO_9.out) hb); have n1_ := Aside0.mk (Kd.R_below (by (with_reducible repeat (first | apply Kd.R_alloc | apply Kd.R_drewN | apply Kd.R_drew)); exact HO_10.out) hb); have n2_ := Aside0.mk (below_step (by repeat (first | (with_reducible first | exact HB.out | apply below_alloc | apply pw_below_drewN | apply below_drew1) | exact HB.out)) hb); clear HO_9; clear HO_10; clear HB; have HO_9 := n0_; have HO_10 := n1_; have HB := n2_; clear n0_ n1_ n2_; (try clear hb); (try clear hb2); (try clear hk); (try clear hi)) | ((with_reducible refine gate_callee (f := 23) rfl ?_); refine goesL_ (some 72) rfl rfl Try.func23 (by kernel_rfl) rfl #[.int .i64 (wrap64 (a0)), .int .i64 (wrap64 ((wrap64 ((wrap64 (a0)) + (wrap64 (a1)))) + (wrap64 (a2)))), .slice Ao7 t206.length co7] rfl (by (try simp only [List.map_toArray, List.map_cons, List.map_nil]); first | done | rfl | (simp only [List.length_drop, List.length_take]; rfl)) ?_; (with_reducible refine (calendar_Count.calls k1 (wrap64 (a0)) (wrap64 ((wrap64 ((wrap64 (a0)) + (wrap64 (a1)))) + (wrap64 (a2)))) _ _ t206 t217 t218 _ ?side1 ?side2 A15.out).mono ?_); (case side1 => repeat (first | exact (Kd.R_reads' HO_9.out).2.2 | (with_reducible refine Kd.C_alloc ?_ _) | (with_reducible refine Kd.C_drewN ?_ _) | (with_reducible refine Kd.C_drew ?_))); (case side2 => exact (Kd.R_reads' HO_9.out).2.1); rintro e w28 ⟨rfl, hb⟩; refine ⟨_, rfl, ?_⟩; have n0_ := Aside0.mk (Kd.R_below (by (with_reducible repeat (first | apply Kd.R_alloc | apply Kd.R_drewN | apply Kd.R_drew)); exact HO_9.out) hb); have n1_ := Aside0.mk (Kd.R_below (by (with_reducible repeat (first | apply Kd.R_alloc | apply Kd.R_drewN | apply Kd.R_drew)); exact HO_10.out) hb); have n2_ := Aside0.mk (below_step (by repeat (first | (with_reducible first | exact HB.out | apply below_alloc | apply pw_below_drewN | apply below_drew1) | exact HB.out)) hb); clear HO_9; clear HO_10; clear HB; have HO_9 := n0_; have HO_10 := n1_; have HB := n2_; clear n0_ n1_ n2_; (try clear hb); (try clear hb2); (try clear hk); (try clear hi)) | ((with_reducible refine gate_callee (f := 23) rfl ?_); refine goesL_ (some 79) rfl rfl Try.func23 (by kernel_rfl) rfl #[.int .i64 (wrap64 ((wrap64 ((wrap64 (a0)) + (wrap64 (a1)))) + (wrap64 (a2)))), .int .i64 (wrap64 (a0)), .slice Ao7 t206.length co7] rfl (by (try simp only [List.map_toArray, List.map_cons, List.map_nil]); first | done | rfl | (simp only [List.length_drop, List.length_take]; rfl)) ?_; (with_reducible refine (calendar_Count.calls k1 (wrap64 ((wrap64 ((wrap64 (a0)) + (wrap64 (a1)))) + (wrap64 (a2)))) (wrap64 (a0)) _ _ t206 t219 t220 _ ?side1 ?side2 A16.out).mono ?_); (case side1 => repeat (first | exact (Kd.R_reads' HO_9.out).2.2 | (with_reducible refine Kd.C_alloc ?_ _) | (with_reducible refine Kd.C_drewN ?_ _) | (with_reducible refine Kd.C_drew ?_))); (case side2 => exact (Kd.R_reads' HO_9.out).2.1); rintro e w29 ⟨rfl, hb⟩; refine ⟨_, rfl, ?_⟩; have n0_ := Aside0.mk (Kd.R_below (by (with_reducible repeat (first | apply Kd.R_alloc | apply Kd.R_drewN | apply Kd.R_drew)); exact HO_9.out) hb); have n1_ := Aside0.mk (Kd.R_below (by (with_reducible repeat (first | apply Kd.R_alloc | apply Kd.R_drewN | apply Kd.R_drew)); exact HO_10.out) hb); have n2_ := Aside0.mk (below_step (by repeat (first | (with_reducible first | exact HB.out | apply below_alloc | apply pw_below_drewN | apply below_drew1) | exact HB.out)) hb); clear HO_9; clear HO_10; clear HB; have HO_9 := n0_; have HO_10 := n1_; have HB := n2_; clear n0_ n1_ n2_; (try clear hb); (try clear hb2); (try clear hk); (try clear hi)) | ((with_reducible refine gate_callee (f := 14) rfl ?_); refine goesL_ (some 82) rfl rfl Try.func14 (by kernel_rfl) rfl #[] rfl (by (try simp only [List.map_toArray, List.map_cons, List.map_nil]); first | done | rfl | (simp only [List.length_drop, List.length_take]; rfl)) ?_; (with_reducible refine (insolvencylaw5_awake.calls k1  true _ A17.out).mono ?_); rintro e w30 ⟨rfl, hb⟩; refine ⟨_, rfl, ?_⟩; have n0_ := Aside0.mk (Kd.R_below (by (with_reducible repeat (first | apply Kd.R_alloc | apply Kd.R_drewN | apply Kd.R_drew)); exact HO_9.out) hb); have n1_ := Aside0.mk (Kd.R_below (by (with_reducible repeat (first | apply Kd.R_alloc | apply Kd.R_drewN | apply Kd.R_drew)); exact HO_10.out) hb); have n2_ := Aside0.mk (below_step (by repeat (first | (with_reducible first | exact HB.out | apply below_alloc | apply pw_below_drewN | apply below_drew1) | exact HB.out)) hb); clear HO_9; clear HO_10; clear HB; have HO_9 := n0_; have HO_10 := n1_; have HB := n2_; clear n0_ n1_ n2_; (try clear hb); (try clear hb2); (try clear hk); (try clear hi)))
                      go_ret
                      exact ⟨by first | rfl | (simp [errW_none, errW_some] <;> rfl) | (simp [*, errW_none, errW_some] <;> rfl), by repeat (first | (with_reducible first | exact HB.out | apply below_alloc | apply pw_below_drewN | apply below_drew1) | exact HB.out)⟩
                    · rw [if_neg c24] at H
                      have c24b0 : (t219 == 0) = false := beq_eq_false_iff_ne.mpr c24
                      have c24b1 : (t219 != 0) = true := bne_iff_ne.mpr c24
                      obtain rfl := Option.some.inj H
                      go_wp2_with (first | ((with_reducible refine gate_callee (f := 23) rfl ?_); refine goesL_ (some 58) rfl rfl Try.func23 (by kernel_rfl) rfl #[.int .i64 (wrap64 (a0)), .int .i64 (wrap64 ((wrap64 (a0)) + (wrap64 (a1)))), .slice Ao7 t206.length co7] rfl (by (try simp only [List.map_toArray, List.map_cons, List.map_nil]); first | done | rfl | (simp only [List.length_drop, List.length_take]; rfl)) ?_; (with_reducible refine (calendar_Count.calls k1 (wrap64 (a0)) (wrap64 ((wrap64 (a0)) + (wrap64 (a1)))) _ _ t206 t213 t214 _ ?side1 ?side2 A13.out).mono ?_); (case side1 => repeat (first | exact (Kd.R_reads' HO_9.out).2.2 | (with_reducible refine Kd.C_alloc ?_ _) | (with_reducible refine Kd.C_drewN ?_ _) | (with_reducible refine Kd.C_drew ?_))); (case side2 => exact (Kd.R_reads' HO_9.out).2.1); rintro e w31 ⟨rfl, hb⟩; refine ⟨_, rfl, ?_⟩; have n0_ := Aside0.mk (Kd.R_below (by (with_reducible repeat (first | apply Kd.R_alloc | apply Kd.R_drewN | apply Kd.R_drew)); exact HO_9.out) hb); have n1_ := Aside0.mk (Kd.R_below (by (with_reducible repeat (first | apply Kd.R_alloc | apply Kd.R_drewN | apply Kd.R_drew)); exact HO_10.out) hb); have n2_ := Aside0.mk (below_step (by repeat (first | (with_reducible first | exact HB.out | apply below_alloc | apply pw_below_drewN | apply below_drew1) | exact HB.out)) hb); clear HO_9; clear HO_10; clear HB; have HO_9 := n0_; have HO_10 := n1_; have HB := n2_; clear n0_ n1_ n2_; (try clear hb); (try clear hb2); (try clear hk); (try clear hi); obtain ⟨Ao32, co32, eo32⟩ := Kd.R_slice HO_10.out; subst eo32) | ((with_reducible refine gate_callee (f := 23) rfl ?_); refine goesL_ (some 65) rfl rfl Try.func23 (by kernel_rfl) rfl #[.int .i64 (wrap64 ((wrap64 (a0)) + (wrap64 (a1)))), .int .i64 (wrap64 ((wrap64 ((wrap64 (a0)) + (wrap64 (a1)))) + (wrap64 (a2)))), .slice Ao32 x10_1.length co32] rfl (by (try simp only [List.map_toArray, List.map_cons, List.map_nil]); first | done | rfl | (simp only [List.length_drop, List.length_take]; rfl)) ?_; (with_reducible refine (calendar_Count.calls k1 (wrap64 ((wrap64 (a0)) + (wrap64 (a1)))) (wrap64 ((wrap64 ((wrap64 (a0)) + (wrap64 (a1)))) + (wrap64 (a2)))) _ _ x10_1 t215 t216 _ ?side1 ?side2 A14.out).mono ?_); (case side1 => repeat (first | exact (Kd.R_reads' HO_10.out).2.2 | (with_reducible refine Kd.C_alloc ?_ _) | (with_reducible refine Kd.C_drewN ?_ _) | (with_reducible refine Kd.C_drew ?_))); (case side2 => exact (Kd.R_reads' HO_10.out).2.1); rintro e w33 ⟨rfl, hb⟩; refine ⟨_, rfl, ?_⟩; have n0_ := Aside0.mk (Kd.R_below (by (with_reducible repeat (first | apply Kd.R_alloc | apply Kd.R_drewN | apply Kd.R_drew)); exact HO_9.out) hb); have n1_ := Aside0.mk (Kd.R_below (by (with_reducible repeat (first | apply Kd.R_alloc | apply Kd.R_drewN | apply Kd.R_drew)); exact HO_10.out) hb); have n2_ := Aside0.mk (below_step (by repeat (first | (with_reducible first | exact HB.out | apply below_alloc | apply pw_below_drewN | apply below_drew1) | exact HB.out)) hb); clear HO_9; clear HO_10; clear HB; have HO_9 := n0_; have HO_10 := n1_; have HB := n2_; clear n0_ n1_ n2_; (try clear hb); (try clear hb2); (try clear hk); (try clear hi)) | ((with_reducible refine gate_callee (f := 23) rfl ?_); refine goesL_ (some 72) rfl rfl Try.func23 (by kernel_rfl) rfl #[.int .i64 (wrap64 (a0)), .int .i64 (wrap64 ((wrap64 ((wrap64 (a0)) + (wrap64 (a1)))) + (wrap64 (a2)))), .slice Ao7 t206.length co7] rfl (by (try simp only [List.map_toArray, List.map_cons, List.map_nil]); first | done | rfl | (simp only [List.length_drop, List.length_take]; rfl)) ?_; (with_reducible refine (calendar_Count.calls k1 (wrap64 (a0)) (wrap64 ((wrap64 ((wrap64 (a0)) + (wrap64 (a1)))) + (wrap64 (a2)))) _ _ t206 t217 t218 _ ?side1 ?side2 A15.out).mono ?_); (case side1 => repeat (first | exact (Kd.R_reads' HO_9.out).2.2 | (with_reducible refine Kd.C_alloc ?_ _) | (with_reducible refine Kd.C_drewN ?_ _) | (with_reducible refine Kd.C_drew ?_))); (case side2 => exact (Kd.R_reads' HO_9.out).2.1); rintro e w34 ⟨rfl, hb⟩; refine ⟨_, rfl, ?_⟩; have n0_ := Aside0.mk (Kd.R_below (by (with_reducible repeat (first | apply Kd.R_alloc | apply Kd.R_drewN | apply Kd.R_drew)); exact HO_9.out) hb); have n1_ := Aside0.mk (Kd.R_below (by (with_reducible repeat (first | apply Kd.R_alloc | apply Kd.R_drewN | apply Kd.R_drew)); exact HO_10.out) hb); have n2_ := Aside0.mk (below_step (by repeat (first | (with_reducible first | exact HB.out | apply below_alloc | apply pw_below_drewN | apply below_drew1) | exact HB.out)) hb); clear HO_9; clear HO_10; clear HB; have HO_9 := n0_; have HO_10 := n1_; have HB := n2_; clear n0_ n1_ n2_; (try clear hb); (try clear hb2); (try clear hk); (try clear hi)) | ((with_reducible refine gate_callee (f := 23) rfl ?_); refine goesL_ (some 79) rfl rfl Try.func23 (by kernel_rfl) rfl #[.int .i64 (wrap64 ((wrap64 ((wrap64 (a0)) + (wrap64 (a1)))) + (wrap64 (a2)))), .int .i64 (wrap64 (a0)), .slice Ao7 t206.length co7] rfl (by (try simp only [List.map_toArray, List.map_cons, List.map_nil]); first | done | rfl | (simp only [List.length_drop, List.length_take]; rfl)) ?_; (with_reducible refine (calendar_Count.calls k1 (wrap64 ((wrap64 ((wrap64 (a0)) + (wrap64 (a1)))) + (wrap64 (a2)))) (wrap64 (a0)) _ _ t206 t219 t220 _ ?side1 ?side2 A16.out).mono ?_); (case side1 => repeat (first | exact (Kd.R_reads' HO_9.out).2.2 | (with_reducible refine Kd.C_alloc ?_ _) | (with_reducible refine Kd.C_drewN ?_ _) | (with_reducible refine Kd.C_drew ?_))); (case side2 => exact (Kd.R_reads' HO_9.out).2.1); rintro e w35 ⟨rfl, hb⟩; refine ⟨_, rfl, ?_⟩; have n0_ := Aside0.mk (Kd.R_below (by (with_reducible repeat (first | apply Kd.R_alloc | apply Kd.R_drewN | apply Kd.R_drew)); exact HO_9.out) hb); have n1_ := Aside0.mk (Kd.R_below (by (with_reducible repeat (first | apply Kd.R_alloc | apply Kd.R_drewN | apply Kd.R_drew)); exact HO_10.out) hb); have n2_ := Aside0.mk (below_step (by repeat (first | (with_reducible first | exact HB.out | apply below_alloc | apply pw_below_drewN | apply below_drew1) | exact HB.out)) hb); clear HO_9; clear HO_10; clear HB; have HO_9 := n0_; have HO_10 := n1_; have HB := n2_; clear n0_ n1_ n2_; (try clear hb); (try clear hb2); (try clear hk); (try clear hi)) | ((with_reducible refine gate_callee (f := 14) rfl ?_); refine goesL_ (some 82) rfl rfl Try.func14 (by kernel_rfl) rfl #[] rfl (by (try simp only [List.map_toArray, List.map_cons, List.map_nil]); first | done | rfl | (simp only [List.length_drop, List.length_take]; rfl)) ?_; (with_reducible refine (insolvencylaw5_awake.calls k1  true _ A17.out).mono ?_); rintro e w36 ⟨rfl, hb⟩; refine ⟨_, rfl, ?_⟩; have n0_ := Aside0.mk (Kd.R_below (by (with_reducible repeat (first | apply Kd.R_alloc | apply Kd.R_drewN | apply Kd.R_drew)); exact HO_9.out) hb); have n1_ := Aside0.mk (Kd.R_below (by (with_reducible repeat (first | apply Kd.R_alloc | apply Kd.R_drewN | apply Kd.R_drew)); exact HO_10.out) hb); have n2_ := Aside0.mk (below_step (by repeat (first | (with_reducible first | exact HB.out | apply below_alloc | apply pw_below_drewN | apply below_drew1) | exact HB.out)) hb); clear HO_9; clear HO_10; clear HB; have HO_9 := n0_; have HO_10 := n1_; have HB := n2_; clear n0_ n1_ n2_; (try clear hb); (try clear hb2); (try clear hk); (try clear hi)))
                      go_ret
                      exact ⟨by first | rfl | (simp [errW_none, errW_some] <;> rfl) | (simp [*, errW_none, errW_some] <;> rfl), by repeat (first | (with_reducible first | exact HB.out | apply below_alloc | apply pw_below_drewN | apply below_drew1) | exact HB.out)⟩
                  · rw [if_neg c23] at H
                    exact absurd H (by simp)
                · rw [if_neg c22] at H
                  exact absurd H (by simp)
              · rw [if_neg c21] at H
                exact absurd H (by simp)
            · rw [if_neg c20] at H
              exact absurd H (by simp)
          · rw [if_neg c19] at H
            exact absurd H (by simp)
        · replace c18 := Bool.eq_false_iff.mpr c18
          subst c18
          have H1 : (none) = some r := by rw [if_neg (show ¬ (false = true) by decide)] at H; exact H
          clear H
          have H := H1
          clear H1
          exact absurd H (by simp)

/-- THE ONE PURE STATEMENT of insolvencylaw5_CalendarSplit: yours. -/
def insolvencylaw5_CalendarSplit.Pure : Prop := ∀ (a0 : Int) (a1 : Int) (a2 : Int) (l3 : List Int), (Lit.int .u8 a0).wf = true → (Lit.int .u8 a1).wf = true → (Lit.int .u8 a2).wf = true → l3.length ≤ maxLen → l3.length * 1 ≤ 140737488351232 → (∀ x ∈ l3, (Lit.int .u8 x).wf = true) → ∃ k, insolvencylaw5_CalendarSplit.f k a0 a1 a2 l3 = some true
theorem insolvencylaw5_CalendarSplit.walk (P : insolvencylaw5_CalendarSplit.Pure) (a0 : Int) (a1 : Int) (a2 : Int) (a3 : Option Addr) (len3 cap3 : Nat) (z3 : List Int) (w : World) (w0 : (Lit.int .u8 a0).wf = true) (w1 : (Lit.int .u8 a1).wf = true) (w2 : (Lit.int .u8 a2).wf = true) (w3 : (a3 = none ∧ len3 = 0 ∧ cap3 = 0 ∧ z3 = []) ∨ ∃ x, a3 = some x ∧ len3 ≤ cap3 ∧ cap3 ≤ maxLen ∧ z3.length = cap3 ∧ (∀ i, i < z3.length → w.cell? (x.add i) = some (.int .u8 (z3.getD i 0))) ∧ ∀ n ∈ z3, (Lit.int .u8 n).wf = true) (y3 : len3 * 1 ≤ 140737488351232) :
    Calls Try.prog 9 #[.int .u8 a0, .int .u8 a1, .int .u8 a2, .slice a3 len3 cap3] w fun e w' => e = .returned (.bool true) ∧ Below w.heap.size w w' := by
  obtain ⟨l3, rfl, hr3, hm3, hw3, hc3⟩ := ReadsInt.ofRowC w3
  obtain ⟨k, h⟩ := P a0 a1 a2 l3 w0 w1 w2 hm3 y3 hw3
  refine (insolvencylaw5_CalendarSplit.calls k a0 a1 a2 _ _ l3 true w (Kd.C_of_reads (d := (0 : Int)) (h1 := fun _ => rfl) hr3) hc3 h).mono ?_
  rintro e w' ⟨rfl, hd⟩
  exact ⟨rfl, hd⟩

/-! ### slices_Index_int_int: function 44 -/
def slices_Index_int_int.l0 : Nat → List Int → Int → Int → Int → Option (Int)
  | 0, _, _, _, _ => none
  | k + 1, x0, x1, x7, x8 => if x8 < x7 then (if 0 ≤ x8 then (if x8 < (x0.length : Int) then (if x1 = (rd x0 x8) then (some x8) else (slices_Index_int_int.l0 k x0 x1 x7 (wrap64 (x8 + 1)))) else (none)) else (none)) else (some (-1))
def slices_Index_int_int.f (k : Nat) (l0 : List Int) (a1 : Int) : Option (Int) := slices_Index_int_int.l0 k l0 a1 (l0.length : Int) 0
theorem slices_Index_int_int.mono_l : ∀ k, (∀ y0 y1 y2 y3, LeO (slices_Index_int_int.l0 k y0 y1 y2 y3) (slices_Index_int_int.l0 (k + 1) y0 y1 y2 y3))
  | 0 => fun _ _ _ _ r h => by simp [slices_Index_int_int.l0] at h
  | k + 1 => by
    have ih0 := slices_Index_int_int.mono_l k
    · intro y0 y1 y2 y3
      unfold slices_Index_int_int.l0
      repeat' first
      | (with_reducible exact ih0 _ _ _ _)
      | (with_reducible exact LeO.refl _)
      | (with_reducible exact LeO.none _)
      | (with_reducible refine LeO.ite ?_ ?_)
      | (with_reducible refine LeO.bind ?_ (fun _ => ?_))
      | exact ih0 _ _ _ _
      | exact LeO.none _
      | refine LeO.ite ?_ ?_
      | refine LeO.bind ?_ (fun _ => ?_)
theorem slices_Index_int_int.mono : ∀ a0 a1 k, LeO (slices_Index_int_int.f k a0 a1) (slices_Index_int_int.f (k + 1) a0 a1) := by
  intro a0 a1 k
  have ih0 := slices_Index_int_int.mono_l k
  unfold slices_Index_int_int.f
  repeat' first
      | (with_reducible exact ih0 _ _ _ _)
      | (with_reducible exact LeO.refl _)
      | (with_reducible exact LeO.none _)
      | (with_reducible refine LeO.ite ?_ ?_)
      | (with_reducible refine LeO.bind ?_ (fun _ => ?_))
      | exact ih0 _ _ _ _
      | exact LeO.none _
      | refine LeO.ite ?_ ?_
      | refine LeO.bind ?_ (fun _ => ?_)
set_option maxHeartbeats 8000000 in
set_option maxRecDepth 100000 in
theorem slices_Index_int_int.calls (k : Nat) (A0 : Option Addr) (c0 : Nat) (l0 : List Int) (a1 : Int) (r : Int) (w : World) (hr0 : Kd.C (Kd.int .i64) w A0 l0.length l0) (hc0 : l0.length ≤ c0) (h : slices_Index_int_int.f k l0 a1 = some r) :
    Calls Try.prog 44 #[.slice A0 l0.length c0, .int .i64 a1] w fun e w' => e = .returned (.int .i64 r) ∧ Drawn0 w w' := by
  have HR0 := Aside0.mk hr0
  have HC0 := Aside0.mk hc0
  clear hr0 hc0
  have H : (slices_Index_int_int.l0 k l0 a1 (l0.length : Int) 0) = some r := h
  clear h
  have H' := Aside0.mk H
  clear H
  go_enter Try.func44, Try.ntmps44
  go_wp2
  go_loopg [8] k (fun kq v8 w' => ∃ (x8_1 : Int), v8 = .int .i64 x8_1 ∧ Aside0 (slices_Index_int_int.l0 kq l0 a1 (l0.length : Int) x8_1 = some r) ∧ Aside0 (kq ≤ k) ∧ Drawn0 w w')
  case atStart => exact ⟨(0), (by first | rfl | (simp; done) | (simp [*]; done)), H', ⟨Nat.le_refl _⟩, by repeat (first | exact Drawn0.refl _ | apply Drawn0.step)⟩
  case round =>
    clear H'
    try clear p2
    obtain ⟨x8_1, rfl, HA, HK1, ⟨m1, rfl⟩⟩ := hrel
    cases gk with
    | zero => exact absurd HA.out (by simp [slices_Index_int_int.l0])
    | succ k1 =>
      have H := HA.out
      clear HA
      simp only [slices_Index_int_int.l0] at H
      by_cases c3 : x8_1 < (l0.length : Int)
      · rw [if_pos c3] at H
        have c3b0 : decide (x8_1 < (l0.length : Int)) = true := decide_eq_true c3
        clear c3
        by_cases c4 : 0 ≤ x8_1
        · rw [if_pos c4] at H
          have c4b0 : decide (0 ≤ x8_1) = true := decide_eq_true c4
          clear c4
          by_cases c5 : x8_1 < (l0.length : Int)
          · rw [if_pos c5] at H
            have c5b0 : decide (x8_1 < (l0.length : Int)) = true := decide_eq_true c5
            clear c5
            by_cases c6 : a1 = (rd l0 x8_1)
            · rw [if_pos c6] at H
              have c6b0 : (a1 == (rd l0 x8_1)) = true := beq_iff_eq.mpr c6
              have c6b1 : (a1 != (rd l0 x8_1)) = false := bne_eq_false_iff_eq.mpr c6
              clear c6
              obtain rfl := Option.some.inj H
              have p222 : 0 ≤ (x8_1 : Int) := of_decide_eq_true (by first | (with_reducible assumption) | assumption)
              have q222 : x8_1 < (l0.length : Int) := of_decide_eq_true (by first | (with_reducible assumption) | assumption)
              obtain ⟨ad222, e222, hx222_0⟩ := Kd.at_int HR0.out x8_1 p222 q222
              cases e222
              replace p222 := eq_true p222
              replace q222 := eq_true q222
              go_wp2
              go_ret
              exact ⟨by first | rfl | (simp; done) | (simp [*]; done), by repeat (first | exact Drawn0.refl _ | apply Drawn0.step)⟩
            · rw [if_neg c6] at H
              have c6b0 : (a1 == (rd l0 x8_1)) = false := beq_eq_false_iff_ne.mpr c6
              have c6b1 : (a1 != (rd l0 x8_1)) = true := bne_iff_ne.mpr c6
              have H' := Aside0.mk H
              clear H
              have p222 : 0 ≤ (x8_1 : Int) := of_decide_eq_true (by first | (with_reducible assumption) | assumption)
              have q222 : x8_1 < (l0.length : Int) := of_decide_eq_true (by first | (with_reducible assumption) | assumption)
              obtain ⟨ad222, e222, hx222_0⟩ := Kd.at_int HR0.out x8_1 p222 q222
              cases e222
              replace p222 := eq_true p222
              replace q222 := eq_true q222
              go_wp2
              go_roundg k1
              case measure => have := HK1.out; omega
              case rel => exact ⟨(wrap64 (x8_1 + 1)), (by first | rfl | (simp; done) | (simp [*]; done)), H', ⟨by have := HK1.out; omega⟩, by repeat (first | exact Drawn0.refl _ | apply Drawn0.step)⟩
          · rw [if_neg c5] at H
            exact absurd H (by simp)
        · rw [if_neg c4] at H
          exact absurd H (by simp)
      · rw [if_neg c3] at H
        have c3b0 : decide (x8_1 < (l0.length : Int)) = false := decide_eq_false c3
        clear c3
        obtain rfl := Option.some.inj H
        go_wp2
        go_ret
        exact ⟨by first | rfl | (simp; done) | (simp [*]; done), by repeat (first | exact Drawn0.refl _ | apply Drawn0.step)⟩

/-! ### slices_Contains_int_int: function 36 -/
def slices_Contains_int_int.f (k : Nat) (l0 : List Int) (a1 : Int) : Option (Bool) := (slices_Index_int_int.f k l0 a1).bind fun t223 => (some (decide (t223 ≥ 0)))
theorem slices_Contains_int_int.mono : ∀ a0 a1 k, LeO (slices_Contains_int_int.f k a0 a1) (slices_Contains_int_int.f (k + 1) a0 a1) := by
  intro a0 a1 k
  unfold slices_Contains_int_int.f
  repeat' first
      | (with_reducible exact slices_Index_int_int.mono _ _ _)
      | (with_reducible exact LeO.refl _)
      | (with_reducible exact LeO.none _)
      | (with_reducible refine LeO.ite ?_ ?_)
      | (with_reducible refine LeO.bind ?_ (fun _ => ?_))
      | exact slices_Index_int_int.mono _ _ _
      | exact LeO.none _
      | refine LeO.ite ?_ ?_
      | refine LeO.bind ?_ (fun _ => ?_)
set_option maxHeartbeats 8000000 in
set_option maxRecDepth 100000 in
theorem slices_Contains_int_int.calls (k : Nat) (A0 : Option Addr) (c0 : Nat) (l0 : List Int) (a1 : Int) (r : Bool) (w : World) (hr0 : Kd.C (Kd.int .i64) w A0 l0.length l0) (hc0 : l0.length ≤ c0) (h : slices_Contains_int_int.f k l0 a1 = some r) :
    Calls Try.prog 36 #[.slice A0 l0.length c0, .int .i64 a1] w fun e w' => e = .returned (.bool r) ∧ Drawn0 w w' := by
  have HR0 := Aside0.mk hr0
  have HC0 := Aside0.mk hc0
  clear hr0 hc0
  have H : ((slices_Index_int_int.f k l0 a1).bind fun t223 => (some (decide (t223 ≥ 0)))) = some r := h
  clear h
  replace H := Option.bind_eq_some_iff.mp H
  obtain ⟨t223, A30, H⟩ := H
  replace H : (some (decide (t223 ≥ 0))) = some r := H
  have A3 := Aside0.mk A30
  clear A30
  obtain rfl := Option.some.inj H
  go_enter Try.func36, Try.ntmps36
  go_wp2_with (first | ((with_reducible refine gate_callee (f := 44) rfl ?_); refine goesL_ (some 7) rfl rfl Try.func44 (by kernel_rfl) rfl #[.slice A0 l0.length c0, .int .i64 a1] rfl (by (try simp only [List.map_toArray, List.map_cons, List.map_nil]); first | done | rfl | (simp only [List.length_drop, List.length_take]; rfl)) ?_; (with_reducible refine (slices_Index_int_int.calls k _ _ l0 a1 t223 _ ?side1 ?side2 A3.out).mono ?_); (case side1 => repeat (first | exact HR0.out | (with_reducible refine Kd.C_alloc ?_ _) | (with_reducible refine Kd.C_drewN ?_ _) | (with_reducible refine Kd.C_drew ?_))); (case side2 => exact HC0.out); rintro e w' ⟨rfl, ⟨nd, rfl⟩⟩; refine ⟨_, rfl, ?_⟩))
  go_ret
  exact ⟨by first | rfl | (simp; done) | (simp [*]; done), by repeat (first | exact Drawn0.refl _ | apply Drawn0.step)⟩

/-! ### calendar_IsBusiness: function 25 -/
def calendar_IsBusiness.f (k : Nat) (a0 : Int) (l1 : List Int) : Option (Bool) := (calendar_isDay.f a0).bind fun t224 => (if t224 = true then ((calendar_Weekday.f a0).bind fun t225 => (if t225 < 5 then ((slices_Contains_int_int.f k l1 a0).bind fun t226 => (some (!t226))) else (some false))) else (some false))
theorem calendar_IsBusiness.mono : ∀ a0 a1 k, LeO (calendar_IsBusiness.f k a0 a1) (calendar_IsBusiness.f (k + 1) a0 a1) := by
  intro a0 a1 k
  unfold calendar_IsBusiness.f
  repeat' first
      | (with_reducible exact slices_Contains_int_int.mono _ _ _)
      | (with_reducible exact LeO.refl _)
      | (with_reducible exact LeO.none _)
      | (with_reducible refine LeO.ite ?_ ?_)
      | (with_reducible refine LeO.bind ?_ (fun _ => ?_))
      | exact slices_Contains_int_int.mono _ _ _
      | exact LeO.none _
      | refine LeO.ite ?_ ?_
      | refine LeO.bind ?_ (fun _ => ?_)
set_option maxHeartbeats 8000000 in
set_option maxRecDepth 100000 in
theorem calendar_IsBusiness.calls (k : Nat) (a0 : Int) (A1 : Option Addr) (c1 : Nat) (l1 : List Int) (r : Bool) (w : World) (hr1 : Kd.C (Kd.int .i64) w A1 l1.length l1) (hc1 : l1.length ≤ c1) (h : calendar_IsBusiness.f k a0 l1 = some r) :
    Calls Try.prog 25 #[.int .i64 a0, .slice A1 l1.length c1] w fun e w' => e = .returned (.bool r) ∧ Drawn0 w w' := by
  have HR1 := Aside0.mk hr1
  have HC1 := Aside0.mk hc1
  clear hr1 hc1
  have H : ((calendar_isDay.f a0).bind fun t224 => (if t224 = true then ((calendar_Weekday.f a0).bind fun t225 => (if t225 < 5 then ((slices_Contains_int_int.f k l1 a0).bind fun t226 => (some (!t226))) else (some false))) else (some false))) = some r := h
  clear h
  replace H := Option.bind_eq_some_iff.mp H
  obtain ⟨t224, A30, H⟩ := H
  replace H : (if t224 = true then ((calendar_Weekday.f a0).bind fun t225 => (if t225 < 5 then ((slices_Contains_int_int.f k l1 a0).bind fun t226 => (some (!t226))) else (some false))) else (some false)) = some r := H
  have A3 := Aside0.mk A30
  clear A30
  by_cases c4 : t224 = true
  · subst c4
    have H1 : ((calendar_Weekday.f a0).bind fun t225 => (if t225 < 5 then ((slices_Contains_int_int.f k l1 a0).bind fun t226 => (some (!t226))) else (some false))) = some r := by rw [if_pos rfl] at H; exact H
    clear H
    have H := H1
    clear H1
    replace H := Option.bind_eq_some_iff.mp H
    obtain ⟨t225, A50, H⟩ := H
    replace H : (if t225 < 5 then ((slices_Contains_int_int.f k l1 a0).bind fun t226 => (some (!t226))) else (some false)) = some r := H
    have A5 := Aside0.mk A50
    clear A50
    by_cases c6 : t225 < 5
    · rw [if_pos c6] at H
      have c6b0 : decide (t225 < 5) = true := decide_eq_true c6
      clear c6
      replace H := Option.bind_eq_some_iff.mp H
      obtain ⟨t226, A70, H⟩ := H
      replace H : (some (!t226)) = some r := H
      have A7 := Aside0.mk A70
      clear A70
      obtain rfl := Option.some.inj H
      go_enter Try.func25, Try.ntmps25
      go_wp2_with (first | ((with_reducible refine gate_callee (f := 32) rfl ?_); refine goesL_ (some 6) rfl rfl Try.func32 (by kernel_rfl) rfl #[.int .i64 a0] rfl (by (try simp only [List.map_toArray, List.map_cons, List.map_nil]); first | done | rfl | (simp only [List.length_drop, List.length_take]; rfl)) ?_; (with_reducible refine (calendar_isDay.calls a0 true _ A3.out).mono ?_); rintro e w' ⟨rfl, ⟨nd, rfl⟩⟩; refine ⟨_, rfl, ?_⟩) | (go_at_call 13; (with_reducible refine (calendar_Weekday.calls a0 t225 _ A5.out).mono ?_); rintro e w' ⟨rfl, ⟨nd, rfl⟩⟩) | (go_at_call 36; (with_reducible refine (slices_Contains_int_int.calls k _ _ l1 a0 t226 _ ?side1 ?side2 A7.out).mono ?_); (case side1 => repeat (first | exact HR1.out | (with_reducible refine Kd.C_alloc ?_ _) | (with_reducible refine Kd.C_drewN ?_ _) | (with_reducible refine Kd.C_drew ?_))); (case side2 => exact HC1.out); rintro e w' ⟨rfl, ⟨nd, rfl⟩⟩))
      go_ret
      exact ⟨by first | rfl | (simp; done) | (simp [*]; done), by repeat (first | exact Drawn0.refl _ | apply Drawn0.step)⟩
    · rw [if_neg c6] at H
      have c6b0 : decide (t225 < 5) = false := decide_eq_false c6
      clear c6
      obtain rfl := Option.some.inj H
      go_enter Try.func25, Try.ntmps25
      go_wp2_with (first | ((with_reducible refine gate_callee (f := 32) rfl ?_); refine goesL_ (some 6) rfl rfl Try.func32 (by kernel_rfl) rfl #[.int .i64 a0] rfl (by (try simp only [List.map_toArray, List.map_cons, List.map_nil]); first | done | rfl | (simp only [List.length_drop, List.length_take]; rfl)) ?_; (with_reducible refine (calendar_isDay.calls a0 true _ A3.out).mono ?_); rintro e w' ⟨rfl, ⟨nd, rfl⟩⟩; refine ⟨_, rfl, ?_⟩) | (go_at_call 13; (with_reducible refine (calendar_Weekday.calls a0 t225 _ A5.out).mono ?_); rintro e w' ⟨rfl, ⟨nd, rfl⟩⟩))
      go_ret
      exact ⟨by first | rfl | (simp; done) | (simp [*]; done), by repeat (first | exact Drawn0.refl _ | apply Drawn0.step)⟩
  · replace c4 := Bool.eq_false_iff.mpr c4
    subst c4
    have H1 : (some false) = some r := by rw [if_neg (show ¬ (false = true) by decide)] at H; exact H
    clear H
    have H := H1
    clear H1
    obtain rfl := Option.some.inj H
    go_enter Try.func25, Try.ntmps25
    go_wp2_with (first | ((with_reducible refine gate_callee (f := 32) rfl ?_); refine goesL_ (some 6) rfl rfl Try.func32 (by kernel_rfl) rfl #[.int .i64 a0] rfl (by (try simp only [List.map_toArray, List.map_cons, List.map_nil]); first | done | rfl | (simp only [List.length_drop, List.length_take]; rfl)) ?_; (with_reducible refine (calendar_isDay.calls a0 false _ A3.out).mono ?_); rintro e w' ⟨rfl, ⟨nd, rfl⟩⟩; refine ⟨_, rfl, ?_⟩))
    go_ret
    exact ⟨by first | rfl | (simp; done) | (simp [*]; done), by repeat (first | exact Drawn0.refl _ | apply Drawn0.step)⟩

/-! ### insolvencylaw5_CalendarBusiness: function 10 -/
def insolvencylaw5_CalendarBusiness.f (k : Nat) (a0 : Int) (l1 : List Int) : Option (Bool) := if (l1.length : Int) > 200 then ((insolvencylaw5_awake.f k).bind fun t227 => (some t227)) else ((insolvencylaw5_awake.f k).bind fun t228 => (if t228 = true then ((calendar_IsBusiness.f k a0 l1).bind fun t229 => ((insolvencyref1_IsBusiness.f k a0 l1).bind fun t230 => (some (t229 == t230)))) else (none)))
theorem insolvencylaw5_CalendarBusiness.mono : ∀ a0 a1 k, LeO (insolvencylaw5_CalendarBusiness.f k a0 a1) (insolvencylaw5_CalendarBusiness.f (k + 1) a0 a1) := by
  intro a0 a1 k
  unfold insolvencylaw5_CalendarBusiness.f
  repeat' first
      | (with_reducible exact calendar_IsBusiness.mono _ _ _)
      | (with_reducible exact insolvencylaw5_awake.mono _)
      | (with_reducible exact insolvencyref1_IsBusiness.mono _ _ _)
      | (with_reducible exact LeO.refl _)
      | (with_reducible exact LeO.none _)
      | (with_reducible refine LeO.ite ?_ ?_)
      | (with_reducible refine LeO.bind ?_ (fun _ => ?_))
      | exact calendar_IsBusiness.mono _ _ _
      | exact insolvencylaw5_awake.mono _
      | exact insolvencyref1_IsBusiness.mono _ _ _
      | exact LeO.none _
      | refine LeO.ite ?_ ?_
      | refine LeO.bind ?_ (fun _ => ?_)
set_option maxHeartbeats 8000000 in
set_option maxRecDepth 100000 in
theorem insolvencylaw5_CalendarBusiness.calls (k : Nat) (a0 : Int) (A1 : Option Addr) (c1 : Nat) (l1 : List Int) (r : Bool) (w : World) (hr1 : Kd.C (Kd.int .i64) w A1 l1.length l1) (hc1 : l1.length ≤ c1) (h : insolvencylaw5_CalendarBusiness.f k a0 l1 = some r) :
    Calls Try.prog 10 #[.int .i64 a0, .slice A1 l1.length c1] w fun e w' => e = .returned (.bool r) ∧ Below w.heap.size w w' := by
  have HR1 := Aside0.mk hr1
  have HC1 := Aside0.mk hc1
  clear hr1 hc1
  have HB := Aside0.mk (Below.refl w.heap.size w)
  have H : (if (l1.length : Int) > 200 then ((insolvencylaw5_awake.f k).bind fun t227 => (some t227)) else ((insolvencylaw5_awake.f k).bind fun t228 => (if t228 = true then ((calendar_IsBusiness.f k a0 l1).bind fun t229 => ((insolvencyref1_IsBusiness.f k a0 l1).bind fun t230 => (some (t229 == t230)))) else (none)))) = some r := h
  clear h
  by_cases c3 : (l1.length : Int) > 200
  · rw [if_pos c3] at H
    have c3b0 : decide (200 < (l1.length : Int)) = true := decide_eq_true c3
    have c3b1 : decide (200 < l1.length) = true := decide_eq_true (by omega)
    clear c3
    replace H := Option.bind_eq_some_iff.mp H
    obtain ⟨t227, A40, H⟩ := H
    replace H : (some t227) = some r := H
    have A4 := Aside0.mk A40
    clear A40
    obtain rfl := Option.some.inj H
    go_enter Try.func10, Try.ntmps10
    go_wp2_with (first | ((with_reducible refine gate_callee (f := 14) rfl ?_); refine goesL_ (some 8) rfl rfl Try.func14 (by kernel_rfl) rfl #[] rfl (by (try simp only [List.map_toArray, List.map_cons, List.map_nil]); first | done | rfl | (simp only [List.length_drop, List.length_take]; rfl)) ?_; (with_reducible refine (insolvencylaw5_awake.calls k  t227 _ A4.out).mono ?_); rintro e w5 ⟨rfl, hb⟩; refine ⟨_, rfl, ?_⟩; have n0_ := Aside0.mk (below_step (by repeat (first | (with_reducible first | exact HB.out | apply below_alloc | apply pw_below_drewN | apply below_drew1) | exact HB.out)) hb); clear HB; have HB := n0_; clear n0_; (try clear hb); (try clear hb2); (try clear hk); (try clear hi)))
    go_ret
    exact ⟨by first | rfl | (simp [errW_none, errW_some] <;> rfl) | (simp [*, errW_none, errW_some] <;> rfl), by repeat (first | (with_reducible first | exact HB.out | apply below_alloc | apply pw_below_drewN | apply below_drew1) | exact HB.out)⟩
  · rw [if_neg c3] at H
    have c3b0 : decide (200 < (l1.length : Int)) = false := decide_eq_false c3
    have c3b1 : decide (200 < l1.length) = false := decide_eq_false (by omega)
    clear c3
    replace H := Option.bind_eq_some_iff.mp H
    obtain ⟨t228, A60, H⟩ := H
    replace H : (if t228 = true then ((calendar_IsBusiness.f k a0 l1).bind fun t229 => ((insolvencyref1_IsBusiness.f k a0 l1).bind fun t230 => (some (t229 == t230)))) else (none)) = some r := H
    have A6 := Aside0.mk A60
    clear A60
    by_cases c7 : t228 = true
    · subst c7
      have H1 : ((calendar_IsBusiness.f k a0 l1).bind fun t229 => ((insolvencyref1_IsBusiness.f k a0 l1).bind fun t230 => (some (t229 == t230)))) = some r := by rw [if_pos rfl] at H; exact H
      clear H
      have H := H1
      clear H1
      replace H := Option.bind_eq_some_iff.mp H
      obtain ⟨t229, A80, H⟩ := H
      replace H : ((insolvencyref1_IsBusiness.f k a0 l1).bind fun t230 => (some (t229 == t230))) = some r := H
      have A8 := Aside0.mk A80
      clear A80
      replace H := Option.bind_eq_some_iff.mp H
      obtain ⟨t230, A90, H⟩ := H
      replace H : (some (t229 == t230)) = some r := H
      have A9 := Aside0.mk A90
      clear A90
      obtain rfl := Option.some.inj H
      go_enter Try.func10, Try.ntmps10
      go_wp2_with (first | ((with_reducible refine gate_callee (f := 14) rfl ?_); refine goesL_ (some 9) rfl rfl Try.func14 (by kernel_rfl) rfl #[] rfl (by (try simp only [List.map_toArray, List.map_cons, List.map_nil]); first | done | rfl | (simp only [List.length_drop, List.length_take]; rfl)) ?_; (with_reducible refine (insolvencylaw5_awake.calls k  true _ A6.out).mono ?_); rintro e w10 ⟨rfl, hb⟩; refine ⟨_, rfl, ?_⟩; have n0_ := Aside0.mk (below_step (by repeat (first | (with_reducible first | exact HB.out | apply below_alloc | apply pw_below_drewN | apply below_drew1) | exact HB.out)) hb); clear HB; have HB := n0_; clear n0_; (try clear hb); (try clear hb2); (try clear hk); (try clear hi)) | (go_at_call 25; (with_reducible refine (calendar_IsBusiness.calls k a0 _ _ l1 t229 _ ?side1 ?side2 A8.out).mono ?_); (case side1 => repeat (first | exact (Kd.C_below HR1.out HB.out) | (with_reducible refine Kd.C_alloc ?_ _) | (with_reducible refine Kd.C_drewN ?_ _) | (with_reducible refine Kd.C_drew ?_))); (case side2 => exact HC1.out); rintro e w' ⟨rfl, ⟨nd, rfl⟩⟩) | (go_at_call 26; (with_reducible refine (insolvencyref1_IsBusiness.calls k a0 _ _ l1 t230 _ ?side1 ?side2 A9.out).mono ?_); (case side1 => repeat (first | exact (Kd.C_below HR1.out (by repeat (first | (with_reducible first | exact HB.out | apply below_alloc | apply pw_below_drewN | apply below_drew1) | exact HB.out))) | (with_reducible refine Kd.C_alloc ?_ _) | (with_reducible refine Kd.C_drewN ?_ _) | (with_reducible refine Kd.C_drew ?_))); (case side2 => exact HC1.out); rintro e w' ⟨rfl, ⟨nd, rfl⟩⟩))
      go_ret
      exact ⟨by first | rfl | (simp [errW_none, errW_some] <;> rfl) | (simp [*, errW_none, errW_some] <;> rfl), by repeat (first | (with_reducible first | exact HB.out | apply below_alloc | apply pw_below_drewN | apply below_drew1) | exact HB.out)⟩
    · replace c7 := Bool.eq_false_iff.mpr c7
      subst c7
      have H1 : (none) = some r := by rw [if_neg (show ¬ (false = true) by decide)] at H; exact H
      clear H
      have H := H1
      clear H1
      exact absurd H (by simp)

/-- THE ONE PURE STATEMENT of insolvencylaw5_CalendarBusiness: yours. -/
def insolvencylaw5_CalendarBusiness.Pure : Prop := ∀ (a0 : Int) (l1 : List Int), (Lit.int .i64 a0).wf = true → l1.length ≤ maxLen → l1.length * 8 ≤ 140737488351232 → (∀ x ∈ l1, (Lit.int .i64 x).wf = true) → ∃ k, insolvencylaw5_CalendarBusiness.f k a0 l1 = some true
theorem insolvencylaw5_CalendarBusiness.walk (P : insolvencylaw5_CalendarBusiness.Pure) (a0 : Int) (a1 : Option Addr) (len1 cap1 : Nat) (z1 : List Int) (w : World) (w0 : (Lit.int .i64 a0).wf = true) (w1 : (a1 = none ∧ len1 = 0 ∧ cap1 = 0 ∧ z1 = []) ∨ ∃ x, a1 = some x ∧ len1 ≤ cap1 ∧ cap1 ≤ maxLen ∧ z1.length = cap1 ∧ (∀ i, i < z1.length → w.cell? (x.add i) = some (.int .i64 (z1.getD i 0))) ∧ ∀ n ∈ z1, (Lit.int .i64 n).wf = true) (y1 : len1 * 8 ≤ 140737488351232) :
    Calls Try.prog 10 #[.int .i64 a0, .slice a1 len1 cap1] w fun e w' => e = .returned (.bool true) ∧ Below w.heap.size w w' := by
  obtain ⟨l1, rfl, hr1, hm1, hw1, hc1⟩ := ReadsInt.ofRowC w1
  obtain ⟨k, h⟩ := P a0 l1 w0 hm1 y1 hw1
  refine (insolvencylaw5_CalendarBusiness.calls k a0 _ _ l1 true w (Kd.C_of_reads (d := (0 : Int)) (h1 := fun _ => rfl) hr1) hc1 h).mono ?_
  rintro e w' ⟨rfl, hd⟩
  exact ⟨rfl, hd⟩

/-! ### insolvencylaw5_CalendarInverse: function 11 -/
def insolvencylaw5_CalendarInverse.f (k : Nat) (a0 : Int) (a1 : Int) (l2 : List Int) : Option (Bool) := (insolvencylaw5_days.f k l2).bind fun t231 => ((calendar_Add.f k (wrap64 (a0)) (wrap64 (1 + (wrap64 (Int.tmod a1 60)))) t231).bind fun bt234 => ((calendar_Count.f k (wrap64 ((wrap64 (a0)) + 1)) (wrap64 (bt234.1 + 1)) t231).bind fun bt236 => ((insolvencylaw5_awake.f k).bind fun t238 => (if t238 = true then (if bt234.2 = 0 then (if bt236.2 = 0 then (if bt236.1 = (wrap64 (1 + (wrap64 (Int.tmod a1 60)))) then ((calendar_IsBusiness.f k bt234.1 t231).bind fun t239 => (some t239)) else (none)) else (none)) else (none)) else (none)))))
theorem insolvencylaw5_CalendarInverse.mono : ∀ a0 a1 a2 k, LeO (insolvencylaw5_CalendarInverse.f k a0 a1 a2) (insolvencylaw5_CalendarInverse.f (k + 1) a0 a1 a2) := by
  intro a0 a1 a2 k
  unfold insolvencylaw5_CalendarInverse.f
  repeat' first
      | (with_reducible exact calendar_Add.mono _ _ _ _)
      | (with_reducible exact calendar_Count.mono _ _ _ _)
      | (with_reducible exact calendar_IsBusiness.mono _ _ _)
      | (with_reducible exact insolvencylaw5_awake.mono _)
      | (with_reducible exact insolvencylaw5_days.mono _ _)
      | (with_reducible exact LeO.refl _)
      | (with_reducible exact LeO.none _)
      | (with_reducible refine LeO.ite ?_ ?_)
      | (with_reducible refine LeO.bind ?_ (fun _ => ?_))
      | exact calendar_Add.mono _ _ _ _
      | exact calendar_Count.mono _ _ _ _
      | exact calendar_IsBusiness.mono _ _ _
      | exact insolvencylaw5_awake.mono _
      | exact insolvencylaw5_days.mono _ _
      | exact LeO.none _
      | refine LeO.ite ?_ ?_
      | refine LeO.bind ?_ (fun _ => ?_)
set_option maxHeartbeats 8000000 in
set_option maxRecDepth 100000 in
theorem insolvencylaw5_CalendarInverse.calls (k : Nat) (a0 : Int) (a1 : Int) (A2 : Option Addr) (c2 : Nat) (l2 : List Int) (r : Bool) (w : World) (hr2 : Kd.C (Kd.int .u8) w A2 l2.length l2) (hc2 : l2.length ≤ c2) (h : insolvencylaw5_CalendarInverse.f k a0 a1 l2 = some r) :
    Calls Try.prog 11 #[.int .u8 a0, .int .u8 a1, .slice A2 l2.length c2] w fun e w' => e = .returned (.bool r) ∧ Below w.heap.size w w' := by
  have HR2 := Aside0.mk hr2
  have HC2 := Aside0.mk hc2
  clear hr2 hc2
  have HB := Aside0.mk (Below.refl w.heap.size w)
  have H : ((insolvencylaw5_days.f k l2).bind fun t231 => ((calendar_Add.f k (wrap64 (a0)) (wrap64 (1 + (wrap64 (Int.tmod a1 60)))) t231).bind fun bt234 => ((calendar_Count.f k (wrap64 ((wrap64 (a0)) + 1)) (wrap64 (bt234.1 + 1)) t231).bind fun bt236 => ((insolvencylaw5_awake.f k).bind fun t238 => (if t238 = true then (if bt234.2 = 0 then (if bt236.2 = 0 then (if bt236.1 = (wrap64 (1 + (wrap64 (Int.tmod a1 60)))) then ((calendar_IsBusiness.f k bt234.1 t231).bind fun t239 => (some t239)) else (none)) else (none)) else (none)) else (none)))))) = some r := h
  clear h
  replace H := Option.bind_eq_some_iff.mp H
  obtain ⟨t231, A40, H⟩ := H
  replace H : ((calendar_Add.f k (wrap64 (a0)) (wrap64 (1 + (wrap64 (Int.tmod a1 60)))) t231).bind fun bt234 => ((calendar_Count.f k (wrap64 ((wrap64 (a0)) + 1)) (wrap64 (bt234.1 + 1)) t231).bind fun bt236 => ((insolvencylaw5_awake.f k).bind fun t238 => (if t238 = true then (if bt234.2 = 0 then (if bt236.2 = 0 then (if bt236.1 = (wrap64 (1 + (wrap64 (Int.tmod a1 60)))) then ((calendar_IsBusiness.f k bt234.1 t231).bind fun t239 => (some t239)) else (none)) else (none)) else (none)) else (none))))) = some r := H
  have A4 := Aside0.mk A40
  clear A40
  replace H := Option.bind_eq_some_iff.mp H
  obtain ⟨⟨t234, t235⟩, A50, H⟩ := H
  replace H : ((calendar_Count.f k (wrap64 ((wrap64 (a0)) + 1)) (wrap64 (t234 + 1)) t231).bind fun bt236 => ((insolvencylaw5_awake.f k).bind fun t238 => (if t238 = true then (if t235 = 0 then (if bt236.2 = 0 then (if bt236.1 = (wrap64 (1 + (wrap64 (Int.tmod a1 60)))) then ((calendar_IsBusiness.f k t234 t231).bind fun t239 => (some t239)) else (none)) else (none)) else (none)) else (none)))) = some r := H
  have A5 := Aside0.mk A50
  clear A50
  replace H := Option.bind_eq_some_iff.mp H
  obtain ⟨⟨t236, t237⟩, A60, H⟩ := H
  replace H : ((insolvencylaw5_awake.f k).bind fun t238 => (if t238 = true then (if t235 = 0 then (if t237 = 0 then (if t236 = (wrap64 (1 + (wrap64 (Int.tmod a1 60)))) then ((calendar_IsBusiness.f k t234 t231).bind fun t239 => (some t239)) else (none)) else (none)) else (none)) else (none))) = some r := H
  have A6 := Aside0.mk A60
  clear A60
  replace H := Option.bind_eq_some_iff.mp H
  obtain ⟨t238, A70, H⟩ := H
  replace H : (if t238 = true then (if t235 = 0 then (if t237 = 0 then (if t236 = (wrap64 (1 + (wrap64 (Int.tmod a1 60)))) then ((calendar_IsBusiness.f k t234 t231).bind fun t239 => (some t239)) else (none)) else (none)) else (none)) else (none)) = some r := H
  have A7 := Aside0.mk A70
  clear A70
  by_cases c8 : t238 = true
  · subst c8
    have H1 : (if t235 = 0 then (if t237 = 0 then (if t236 = (wrap64 (1 + (wrap64 (Int.tmod a1 60)))) then ((calendar_IsBusiness.f k t234 t231).bind fun t239 => (some t239)) else (none)) else (none)) else (none)) = some r := by rw [if_pos rfl] at H; exact H
    clear H
    have H := H1
    clear H1
    by_cases c9 : t235 = 0
    · rw [if_pos c9] at H
      have c9b0 : (t235 == 0) = true := beq_iff_eq.mpr c9
      have c9b1 : (t235 != 0) = false := bne_eq_false_iff_eq.mpr c9
      clear c9
      by_cases c10 : t237 = 0
      · rw [if_pos c10] at H
        have c10b0 : (t237 == 0) = true := beq_iff_eq.mpr c10
        have c10b1 : (t237 != 0) = false := bne_eq_false_iff_eq.mpr c10
        clear c10
        by_cases c11 : t236 = (wrap64 (1 + (wrap64 (Int.tmod a1 60))))
        · rw [if_pos c11] at H
          have c11b0 : (t236 == (wrap64 (1 + (wrap64 (Int.tmod a1 60))))) = true := beq_iff_eq.mpr c11
          have c11b1 : (t236 != (wrap64 (1 + (wrap64 (Int.tmod a1 60))))) = false := bne_eq_false_iff_eq.mpr c11
          clear c11
          replace H := Option.bind_eq_some_iff.mp H
          obtain ⟨t239, A120, H⟩ := H
          replace H : (some t239) = some r := H
          have A12 := Aside0.mk A120
          clear A120
          obtain rfl := Option.some.inj H
          go_enter Try.func11, Try.ntmps11
          go_wp2_with (first | ((with_reducible refine gate_callee (f := 21) rfl ?_); refine goesL_ (some 15) rfl rfl Try.func21 (by kernel_rfl) rfl #[.slice A2 l2.length c2] rfl (by (try simp only [List.map_toArray, List.map_cons, List.map_nil]); first | done | rfl | (simp only [List.length_drop, List.length_take]; rfl)) ?_; (with_reducible refine (insolvencylaw5_days.calls k _ _ l2 t231 _ ?side1 ?side2 A4.out).mono ?_); (case side1 => repeat (first | exact HR2.out | (with_reducible refine Kd.C_alloc ?_ _) | (with_reducible refine Kd.C_drewN ?_ _) | (with_reducible refine Kd.C_drew ?_))); (case side2 => exact HC2.out); rintro e w13 ⟨v232, rfl, ho0, hb⟩; refine ⟨_, rfl, ?_⟩; have n0_ := Aside0.mk (Kd.R_lower ho0 (below_size (by repeat (first | (with_reducible first | exact HB.out | apply below_alloc | apply pw_below_drewN | apply below_drew1) | exact HB.out)))); have n1_ := Aside0.mk (below_step (by repeat (first | (with_reducible first | exact HB.out | apply below_alloc | apply pw_below_drewN | apply below_drew1) | exact HB.out)) hb); clear HB; have HO233 := n0_; have HB := n1_; clear n0_ n1_; (try clear hb); (try clear hb2); (try clear hk); (try clear hi); (try clear ho0); obtain ⟨Ao14, co14, eo14⟩ := Kd.R_slice HO233.out; subst eo14) | ((with_reducible refine gate_callee (f := 19) rfl ?_); refine goesL_ (some 26) rfl rfl Try.func19 (by kernel_rfl) rfl #[.int .i64 (wrap64 (a0)), .int .i64 (wrap64 (1 + (wrap64 (Int.tmod a1 60)))), .slice Ao14 t231.length co14] rfl (by (try simp only [List.map_toArray, List.map_cons, List.map_nil]); first | done | rfl | (simp only [List.length_drop, List.length_take]; rfl)) ?_; (with_reducible refine (calendar_Add.calls k (wrap64 (a0)) (wrap64 (1 + (wrap64 (Int.tmod a1 60)))) _ _ t231 t234 t235 _ ?side1 ?side2 A5.out).mono ?_); (case side1 => repeat (first | exact (Kd.R_reads' HO233.out).2.2 | (with_reducible refine Kd.C_alloc ?_ _) | (with_reducible refine Kd.C_drewN ?_ _) | (with_reducible refine Kd.C_drew ?_))); (case side2 => exact (Kd.R_reads' HO233.out).2.1); rintro e w15 ⟨rfl, hb⟩; refine ⟨_, rfl, ?_⟩; have n0_ := Aside0.mk (Kd.R_below (by (with_reducible repeat (first | apply Kd.R_alloc | apply Kd.R_drewN | apply Kd.R_drew)); exact HO233.out) hb); have n1_ := Aside0.mk (below_step (by repeat (first | (with_reducible first | exact HB.out | apply below_alloc | apply pw_below_drewN | apply below_drew1) | exact HB.out)) hb); clear HO233; clear HB; have HO233 := n0_; have HB := n1_; clear n0_ n1_; (try clear hb); (try clear hb2); (try clear hk); (try clear hi)) | ((with_reducible refine gate_callee (f := 23) rfl ?_); refine goesL_ (some 35) rfl rfl Try.func23 (by kernel_rfl) rfl #[.int .i64 (wrap64 ((wrap64 (a0)) + 1)), .int .i64 (wrap64 (t234 + 1)), .slice Ao14 t231.length co14] rfl (by (try simp only [List.map_toArray, List.map_cons, List.map_nil]); first | done | rfl | (simp only [List.length_drop, List.length_take]; rfl)) ?_; (with_reducible refine (calendar_Count.calls k (wrap64 ((wrap64 (a0)) + 1)) (wrap64 (t234 + 1)) _ _ t231 t236 t237 _ ?side1 ?side2 A6.out).mono ?_); (case side1 => repeat (first | exact (Kd.R_reads' HO233.out).2.2 | (with_reducible refine Kd.C_alloc ?_ _) | (with_reducible refine Kd.C_drewN ?_ _) | (with_reducible refine Kd.C_drew ?_))); (case side2 => exact (Kd.R_reads' HO233.out).2.1); rintro e w16 ⟨rfl, hb⟩; refine ⟨_, rfl, ?_⟩; have n0_ := Aside0.mk (Kd.R_below (by (with_reducible repeat (first | apply Kd.R_alloc | apply Kd.R_drewN | apply Kd.R_drew)); exact HO233.out) hb); have n1_ := Aside0.mk (below_step (by repeat (first | (with_reducible first | exact HB.out | apply below_alloc | apply pw_below_drewN | apply below_drew1) | exact HB.out)) hb); clear HO233; clear HB; have HO233 := n0_; have HB := n1_; clear n0_ n1_; (try clear hb); (try clear hb2); (try clear hk); (try clear hi)) | ((with_reducible refine gate_callee (f := 14) rfl ?_); refine goesL_ (some 38) rfl rfl Try.func14 (by kernel_rfl) rfl #[] rfl (by (try simp only [List.map_toArray, List.map_cons, List.map_nil]); first | done | rfl | (simp only [List.length_drop, List.length_take]; rfl)) ?_; (with_reducible refine (insolvencylaw5_awake.calls k  true _ A7.out).mono ?_); rintro e w17 ⟨rfl, hb⟩; refine ⟨_, rfl, ?_⟩; have n0_ := Aside0.mk (Kd.R_below (by (with_reducible repeat (first | apply Kd.R_alloc | apply Kd.R_drewN | apply Kd.R_drew)); exact HO233.out) hb); have n1_ := Aside0.mk (below_step (by repeat (first | (with_reducible first | exact HB.out | apply below_alloc | apply pw_below_drewN | apply below_drew1) | exact HB.out)) hb); clear HO233; clear HB; have HO233 := n0_; have HB := n1_; clear n0_ n1_; (try clear hb); (try clear hb2); (try clear hk); (try clear hi)) | (go_at_call 25; (with_reducible refine (calendar_IsBusiness.calls k t234 _ _ t231 t239 _ ?side1 ?side2 A12.out).mono ?_); (case side1 => repeat (first | exact (Kd.R_reads' HO233.out).2.2 | (with_reducible refine Kd.C_alloc ?_ _) | (with_reducible refine Kd.C_drewN ?_ _) | (with_reducible refine Kd.C_drew ?_))); (case side2 => exact (Kd.R_reads' HO233.out).2.1); rintro e w' ⟨rfl, ⟨nd, rfl⟩⟩))
          go_ret
          exact ⟨by first | rfl | (simp [errW_none, errW_some] <;> rfl) | (simp [*, errW_none, errW_some] <;> rfl), by repeat (first | (with_reducible first | exact HB.out | apply below_alloc | apply pw_below_drewN | apply below_drew1) | exact HB.out)⟩
        · rw [if_neg c11] at H
          exact absurd H (by simp)
      · rw [if_neg c10] at H
        exact absurd H (by simp)
    · rw [if_neg c9] at H
      exact absurd H (by simp)
  · replace c8 := Bool.eq_false_iff.mpr c8
    subst c8
    have H1 : (none) = some r := by rw [if_neg (show ¬ (false = true) by decide)] at H; exact H
    clear H
    have H := H1
    clear H1
    exact absurd H (by simp)

/-- THE ONE PURE STATEMENT of insolvencylaw5_CalendarInverse: yours. -/
def insolvencylaw5_CalendarInverse.Pure : Prop := ∀ (a0 : Int) (a1 : Int) (l2 : List Int), (Lit.int .u8 a0).wf = true → (Lit.int .u8 a1).wf = true → l2.length ≤ maxLen → l2.length * 1 ≤ 140737488351232 → (∀ x ∈ l2, (Lit.int .u8 x).wf = true) → ∃ k, insolvencylaw5_CalendarInverse.f k a0 a1 l2 = some true
theorem insolvencylaw5_CalendarInverse.walk (P : insolvencylaw5_CalendarInverse.Pure) (a0 : Int) (a1 : Int) (a2 : Option Addr) (len2 cap2 : Nat) (z2 : List Int) (w : World) (w0 : (Lit.int .u8 a0).wf = true) (w1 : (Lit.int .u8 a1).wf = true) (w2 : (a2 = none ∧ len2 = 0 ∧ cap2 = 0 ∧ z2 = []) ∨ ∃ x, a2 = some x ∧ len2 ≤ cap2 ∧ cap2 ≤ maxLen ∧ z2.length = cap2 ∧ (∀ i, i < z2.length → w.cell? (x.add i) = some (.int .u8 (z2.getD i 0))) ∧ ∀ n ∈ z2, (Lit.int .u8 n).wf = true) (y2 : len2 * 1 ≤ 140737488351232) :
    Calls Try.prog 11 #[.int .u8 a0, .int .u8 a1, .slice a2 len2 cap2] w fun e w' => e = .returned (.bool true) ∧ Below w.heap.size w w' := by
  obtain ⟨l2, rfl, hr2, hm2, hw2, hc2⟩ := ReadsInt.ofRowC w2
  obtain ⟨k, h⟩ := P a0 a1 l2 w0 w1 hm2 y2 hw2
  refine (insolvencylaw5_CalendarInverse.calls k a0 a1 _ _ l2 true w (Kd.C_of_reads (d := (0 : Int)) (h1 := fun _ => rfl) hr2) hc2 h).mono ?_
  rintro e w' ⟨rfl, hd⟩
  exact ⟨rfl, hd⟩

end Go.Proofs.Ytmlhckcnpfokaaa.F
