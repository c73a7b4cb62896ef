/- Part 6 of 6 of the proof of DocketOnce: texts of this claim put one behind the other by a program; each begins with its own words. -/
import Derived.Test.YtpfiecjacpbhkaaRows
import Derived.WalkKit
import Derived.ProofKit
import Derived.OpenShut
import Derived.ShutString
import Derived.ChangeOld
import Derived.Below
import Derived.SizedLaws
import Derived.Carry
import Derived.Test.YtpfiecjacpbhkaaZDocketOnce5
/- What the Go functions named below come to, each told as_ a Lean function ('.f'), with the proof ('.calls'): no condition beyond those that each theorem states. Written by a program of this session's over the translation. -/
namespace Go.Proofs.Ytpfiecjacpbhkaa.F
open Go.RowKit Go.Proofs.YtpfiecjacpbhkaaW.PrintWords Go.Proofs.YtpfiecjacpbhkaaW.PrintLast Go.Proofs.YtpfiecjacpbhkaaW.PrintMore
attribute [local go_sem] max2_int min2_int max_two min_two max_three min_three max_four min_four   -- for this text's walks alone
set_option linter.unusedVariables false
set_option linter.unusedSimpArgs false

/-! ### insolvencyref1_AddDays: function 61 -/
mutual
def insolvencyref1_AddDays.j0 : Nat → Int → Int → List Int → Bool → Option (Int × Int)
  | 0, _, _, _, _ => none
  | k + 1, x0, x1, x2, x22 => if x22 = true then (some (0, 1)) else (if x1 > 0 then (insolvencyref1_AddDays.j1 k x1 x2 (wrap64 (x0 + 1))) else (insolvencyref1_AddDays.j1 k x1 x2 x0))
def insolvencyref1_AddDays.j1 : Nat → Int → List Int → Int → Option (Int × Int)
  | 0, _, _, _ => none
  | k + 1, x1, x2, x8 => insolvencyref1_AddDays.l0 k x1 x2 x8
def insolvencyref1_AddDays.l0 : Nat → Int → List Int → Int → Option (Int × Int)
  | 0, _, _, _ => none
  | k + 1, x1, x2, x8 => if x8 ≤ 1048576 then ((insolvencyref1_IsBusiness.f k x8 x2).bind fun t126 => (if t126 = true then (if x1 ≤ 1 then (some (x8, 0)) else (insolvencyref1_AddDays.l0 k (wrap64 (x1 - 1)) x2 (wrap64 (x8 + 1)))) else (insolvencyref1_AddDays.l0 k x1 x2 (wrap64 (x8 + 1))))) else (some (0, 1))
end
def insolvencyref1_AddDays.f (k : Nat) (a0 : Int) (a1 : Int) (l2 : List Int) : Option (Int × Int) := if (l2.length : Int) > 1000 then (some (0, 2)) else ((insolvencyref1_IsDay.f a0).bind fun t125 => (if t125 = true then (if a1 < 0 then (insolvencyref1_AddDays.j0 k a0 a1 l2 true) else (insolvencyref1_AddDays.j0 k a0 a1 l2 (decide (a1 > 1048576)))) else (insolvencyref1_AddDays.j0 k a0 a1 l2 true)))
theorem insolvencyref1_AddDays.mono_l : ∀ k, (∀ y0 y1 y2 y3, LeO (insolvencyref1_AddDays.j0 k y0 y1 y2 y3) (insolvencyref1_AddDays.j0 (k + 1) y0 y1 y2 y3)) ∧ (∀ y0 y1 y2, LeO (insolvencyref1_AddDays.j1 k y0 y1 y2) (insolvencyref1_AddDays.j1 (k + 1) y0 y1 y2)) ∧ (∀ y0 y1 y2, LeO (insolvencyref1_AddDays.l0 k y0 y1 y2) (insolvencyref1_AddDays.l0 (k + 1) y0 y1 y2))
  | 0 => ⟨fun _ _ _ _ r h => by simp [insolvencyref1_AddDays.j0] at h, fun _ _ _ r h => by simp [insolvencyref1_AddDays.j1] at h, fun _ _ _ r h => by simp [insolvencyref1_AddDays.l0] at h⟩
  | k + 1 => by
    obtain ⟨ih0, ih1, ih2⟩ := insolvencyref1_AddDays.mono_l k
    refine ⟨?_, ?_, ?_⟩
    · intro y0 y1 y2 y3
      unfold insolvencyref1_AddDays.j0
      repeat' first
      | (with_reducible exact ih0 _ _ _ _)
      | (with_reducible exact ih1 _ _ _)
      | (with_reducible exact ih2 _ _ _)
      | (with_reducible exact insolvencyref1_IsBusiness.mono _ _ _)
      | (with_reducible exact LeO.refl _)
      | (with_reducible exact LeO.none _)
      | (with_reducible refine LeO.ite ?_ ?_)
      | (with_reducible refine LeO.bind ?_ (fun _ => ?_))
      | exact ih0 _ _ _ _
      | exact ih1 _ _ _
      | exact ih2 _ _ _
      | exact insolvencyref1_IsBusiness.mono _ _ _
      | exact LeO.none _
      | refine LeO.ite ?_ ?_
      | refine LeO.bind ?_ (fun _ => ?_)
    · intro y0 y1 y2
      unfold insolvencyref1_AddDays.j1
      repeat' first
      | (with_reducible exact ih0 _ _ _ _)
      | (with_reducible exact ih1 _ _ _)
      | (with_reducible exact ih2 _ _ _)
      | (with_reducible exact insolvencyref1_IsBusiness.mono _ _ _)
      | (with_reducible exact LeO.refl _)
      | (with_reducible exact LeO.none _)
      | (with_reducible refine LeO.ite ?_ ?_)
      | (with_reducible refine LeO.bind ?_ (fun _ => ?_))
      | exact ih0 _ _ _ _
      | exact ih1 _ _ _
      | exact ih2 _ _ _
      | exact insolvencyref1_IsBusiness.mono _ _ _
      | exact LeO.none _
      | refine LeO.ite ?_ ?_
      | refine LeO.bind ?_ (fun _ => ?_)
    · intro y0 y1 y2
      unfold insolvencyref1_AddDays.l0
      repeat' first
      | (with_reducible exact ih0 _ _ _ _)
      | (with_reducible exact ih1 _ _ _)
      | (with_reducible exact ih2 _ _ _)
      | (with_reducible exact insolvencyref1_IsBusiness.mono _ _ _)
      | (with_reducible exact LeO.refl _)
      | (with_reducible exact LeO.none _)
      | (with_reducible refine LeO.ite ?_ ?_)
      | (with_reducible refine LeO.bind ?_ (fun _ => ?_))
      | exact ih0 _ _ _ _
      | exact ih1 _ _ _
      | exact ih2 _ _ _
      | exact insolvencyref1_IsBusiness.mono _ _ _
      | exact LeO.none _
      | refine LeO.ite ?_ ?_
      | refine LeO.bind ?_ (fun _ => ?_)
theorem insolvencyref1_AddDays.mono : ∀ a0 a1 a2 k, LeO (insolvencyref1_AddDays.f k a0 a1 a2) (insolvencyref1_AddDays.f (k + 1) a0 a1 a2) := by
  intro a0 a1 a2 k
  obtain ⟨ih0, ih1, ih2⟩ := insolvencyref1_AddDays.mono_l k
  unfold insolvencyref1_AddDays.f
  repeat' first
      | (with_reducible exact ih0 _ _ _ _)
      | (with_reducible exact ih1 _ _ _)
      | (with_reducible exact ih2 _ _ _)
      | (with_reducible exact insolvencyref1_IsBusiness.mono _ _ _)
      | (with_reducible exact LeO.refl _)
      | (with_reducible exact LeO.none _)
      | (with_reducible refine LeO.ite ?_ ?_)
      | (with_reducible refine LeO.bind ?_ (fun _ => ?_))
      | exact ih0 _ _ _ _
      | exact ih1 _ _ _
      | exact ih2 _ _ _
      | exact insolvencyref1_IsBusiness.mono _ _ _
      | exact LeO.none _
      | refine LeO.ite ?_ ?_
      | refine LeO.bind ?_ (fun _ => ?_)
set_option maxHeartbeats 8000000 in
set_option maxRecDepth 100000 in
theorem insolvencyref1_AddDays.calls (k : Nat) (a0 : Int) (a1 : Int) (A2 : Option Addr) (c2 : Nat) (l2 : List Int) (r1 : Int) (r2 : Int) (w : World) (hr2 : Kd.C (Kd.int .i64) w A2 l2.length l2) (hc2 : l2.length ≤ c2) (h : insolvencyref1_AddDays.f k a0 a1 l2 = some (r1, r2)) :
    Calls Try.prog 61 #[.int .i64 a0, .int .i64 a1, .slice A2 l2.length c2] w fun e w' => e = .returned (.tuple #[.int .i64 r1, .int .i64 r2]) ∧ Drawn0 w w' := by
  have HR2 := Aside0.mk hr2
  have HC2 := Aside0.mk hc2
  clear hr2 hc2
  have H : (if (l2.length : Int) > 1000 then (some (0, 2)) else ((insolvencyref1_IsDay.f a0).bind fun t125 => (if t125 = true then (if a1 < 0 then (insolvencyref1_AddDays.j0 k a0 a1 l2 true) else (insolvencyref1_AddDays.j0 k a0 a1 l2 (decide (a1 > 1048576)))) else (insolvencyref1_AddDays.j0 k a0 a1 l2 true)))) = some (r1, r2) := h
  clear h
  by_cases c4 : (l2.length : Int) > 1000
  · rw [if_pos c4] at H
    have c4b0 : decide (1000 < (l2.length : Int)) = true := decide_eq_true c4
    have c4b1 : decide (1000 < l2.length) = true := decide_eq_true (by omega)
    clear c4
    simp only [Option.some.injEq, Prod.mk.injEq] at H
    obtain ⟨rfl, rfl⟩ := H
    go_enter Try.func61, Try.ntmps61
    go_wp2
    go_ret2
    exact ⟨by first | rfl | (simp; done) | (simp [*]; done), by repeat (first | exact Drawn0.refl _ | apply Drawn0.step)⟩
  · rw [if_neg c4] at H
    have c4b0 : decide (1000 < (l2.length : Int)) = false := decide_eq_false c4
    have c4b1 : decide (1000 < l2.length) = false := decide_eq_false (by omega)
    clear c4
    have HC5 := Aside0.mk H
    clear H
    go_enter Try.func61, Try.ntmps61
    go_upto_region 3 with (fail)
    go_cut [22] (fun v22 wc => ∃ (kq : Nat) (x22_4 : Bool), v22 = .bool x22_4 ∧ Aside0 (insolvencyref1_AddDays.j0 kq a0 a1 l2 x22_4 = some (r1, r2)) ∧ Aside0 (kq ≤ k) ∧ Drawn0 w wc)
    case first =>
      have H := HC5.out
      clear HC5
      replace H := Option.bind_eq_some_iff.mp H
      obtain ⟨t125, A60, H⟩ := H
      replace H : (if t125 = true then (if a1 < 0 then (insolvencyref1_AddDays.j0 k a0 a1 l2 true) else (insolvencyref1_AddDays.j0 k a0 a1 l2 (decide (a1 > 1048576)))) else (insolvencyref1_AddDays.j0 k a0 a1 l2 true)) = some (r1, r2) := H
      have A6 := Aside0.mk A60
      clear A60
      by_cases c7 : t125 = true
      · subst c7
        have H1 : (if a1 < 0 then (insolvencyref1_AddDays.j0 k a0 a1 l2 true) else (insolvencyref1_AddDays.j0 k a0 a1 l2 (decide (a1 > 1048576)))) = some (r1, r2) := by rw [if_pos rfl] at H; exact H
        clear H
        have H := H1
        clear H1
        by_cases c8 : a1 < 0
        · rw [if_pos c8] at H
          have c8b0 : decide (a1 < 0) = true := decide_eq_true c8
          clear c8
          (first | rw [c8b0] | (simp only [i64_w, i32_w]; rw [c8b0]) | skip)
          have H' := Aside0.mk H
          clear H
          go_wp2_with (first | ((with_reducible refine gate_callee (f := 69) rfl ?_); refine goesL_ (some 13) rfl rfl Try.func69 (by kernel_rfl) rfl #[.int .i64 a0] rfl (by (try simp only [List.map_toArray, List.map_cons, List.map_nil]); first | done | rfl | (simp only [List.length_drop, List.length_take]; rfl)) ?_; (with_reducible refine (insolvencyref1_IsDay.calls a0 true _ A6.out).mono ?_); rintro e w' ⟨rfl, ⟨nd, rfl⟩⟩; refine ⟨_, rfl, ?_⟩))
          go_meet
          case rel => exact ⟨_, (true), (by first | rfl | (simp; done) | (simp [*]; done)), H', ⟨by first | omega | exact Nat.le_refl _⟩, by repeat (first | exact Drawn0.refl _ | apply Drawn0.step)⟩
        · rw [if_neg c8] at H
          have c8b0 : decide (a1 < 0) = false := decide_eq_false c8
          clear c8
          (first | rw [c8b0] | (simp only [i64_w, i32_w]; rw [c8b0]) | skip)
          have H' := Aside0.mk H
          clear H
          go_wp2_with (first | ((with_reducible refine gate_callee (f := 69) rfl ?_); refine goesL_ (some 13) rfl rfl Try.func69 (by kernel_rfl) rfl #[.int .i64 a0] rfl (by (try simp only [List.map_toArray, List.map_cons, List.map_nil]); first | done | rfl | (simp only [List.length_drop, List.length_take]; rfl)) ?_; (with_reducible refine (insolvencyref1_IsDay.calls a0 true _ A6.out).mono ?_); rintro e w' ⟨rfl, ⟨nd, rfl⟩⟩; refine ⟨_, rfl, ?_⟩))
          go_meet
          case rel => exact ⟨_, (decide (a1 > 1048576)), (by first | rfl | (simp; done) | (simp [*]; done)), H', ⟨by first | omega | exact Nat.le_refl _⟩, by repeat (first | exact Drawn0.refl _ | apply Drawn0.step)⟩
      · replace c7 := Bool.eq_false_iff.mpr c7
        subst c7
        have H1 : (insolvencyref1_AddDays.j0 k a0 a1 l2 true) = some (r1, r2) := by rw [if_neg (show ¬ (false = true) by decide)] at H; exact H
        clear H
        have H := H1
        clear H1
        have H' := Aside0.mk H
        clear H
        go_wp2_with (first | ((with_reducible refine gate_callee (f := 69) rfl ?_); refine goesL_ (some 13) rfl rfl Try.func69 (by kernel_rfl) rfl #[.int .i64 a0] rfl (by (try simp only [List.map_toArray, List.map_cons, List.map_nil]); first | done | rfl | (simp only [List.length_drop, List.length_take]; rfl)) ?_; (with_reducible refine (insolvencyref1_IsDay.calls a0 false _ A6.out).mono ?_); rintro e w' ⟨rfl, ⟨nd, rfl⟩⟩; refine ⟨_, rfl, ?_⟩))
        go_meet
        case rel => exact ⟨_, (true), (by first | rfl | (simp; done) | (simp [*]; done)), H', ⟨by first | omega | exact Nat.le_refl _⟩, by repeat (first | exact Drawn0.refl _ | apply Drawn0.step)⟩
    case rest =>
      clear HC5
      try clear c2
      try clear p2
      try clear c4
      try clear c4b0
      try clear c4b1
      try clear c6
      try clear c7
      try clear c8
      try clear c8b0
      obtain ⟨kq, x22_4, rfl, HA, HJ4, ⟨mc4, rfl⟩⟩ := hcut
      cases kq with
      | zero => exact absurd HA.out (by simp [insolvencyref1_AddDays.j0])
      | succ kj4 =>
        have H := HA.out
        clear HA
        simp only [insolvencyref1_AddDays.j0] at H
        by_cases c9 : x22_4 = true
        · subst c9
          have H1 : (some (0, 1)) = some (r1, r2) := by rw [if_pos rfl] at H; exact H
          clear H
          have H := H1
          clear H1
          simp only [Option.some.injEq, Prod.mk.injEq] at H
          obtain ⟨rfl, rfl⟩ := H
          go_wp2
          go_ret2
          exact ⟨by first | rfl | (simp; done) | (simp [*]; done), by repeat (first | exact Drawn0.refl _ | apply Drawn0.step)⟩
        · replace c9 := Bool.eq_false_iff.mpr c9
          subst c9
          have H1 : (if a1 > 0 then (insolvencyref1_AddDays.j1 kj4 a1 l2 (wrap64 (a0 + 1))) else (insolvencyref1_AddDays.j1 kj4 a1 l2 a0)) = some (r1, r2) := by rw [if_neg (show ¬ (false = true) by decide)] at H; exact H
          clear H
          have H := H1
          clear H1
          have HC10 := Aside0.mk H
          clear H
          go_upto_if 25 with (fail)
          go_cut [8] (fun v8 wc => ∃ (kq : Nat) (x8_9 : Int), v8 = .int .i64 x8_9 ∧ Aside0 (insolvencyref1_AddDays.j1 kq a1 l2 x8_9 = some (r1, r2)) ∧ Aside0 (kq ≤ kj4) ∧ Drawn0 w wc)
          case first =>
            have H := HC10.out
            clear HC10
            by_cases c11 : a1 > 0
            · rw [if_pos c11] at H
              have c11b0 : decide (0 < a1) = true := decide_eq_true c11
              clear c11
              (first | rw [c11b0] | (simp only [i64_w, i32_w]; rw [c11b0]) | skip)
              have H' := Aside0.mk H
              clear H
              go_wp2
              go_meet
              case rel => exact ⟨_, (wrap64 (a0 + 1)), (by first | rfl | (simp; done) | (simp [*]; done)), H', ⟨by have := HJ4.out; first | omega | exact Nat.le_refl _⟩, by repeat (first | exact Drawn0.refl _ | apply Drawn0.step)⟩
            · rw [if_neg c11] at H
              have c11b0 : decide (0 < a1) = false := decide_eq_false c11
              clear c11
              (first | rw [c11b0] | (simp only [i64_w, i32_w]; rw [c11b0]) | skip)
              have H' := Aside0.mk H
              clear H
              go_wp2
              go_meet
              case rel => exact ⟨_, (a0), (by first | rfl | (simp; done) | (simp [*]; done)), H', ⟨by have := HJ4.out; first | omega | exact Nat.le_refl _⟩, by repeat (first | exact Drawn0.refl _ | apply Drawn0.step)⟩
          case rest =>
            clear HC10
            try clear c1
            try clear c2
            try clear p2
            try clear c4
            try clear c4b0
            try clear c4b1
            try clear c6
            try clear p6
            try clear c7
            try clear c8
            try clear c8b0
            try clear c9
            try clear c11
            try clear c11b0
            try clear p2
            obtain ⟨kq, x8_9, rfl, HA, HJ9, ⟨mc9, rfl⟩⟩ := hcut
            cases kq with
            | zero => exact absurd HA.out (by simp [insolvencyref1_AddDays.j1])
            | succ kj9 =>
              have H := HA.out
              clear HA
              simp only [insolvencyref1_AddDays.j1] at H
              have H' := Aside0.mk H
              clear H
              go_wp2
              go_loopg [1, 8] kj9 (fun kq v1 v8 w' => ∃ (x1_3 : Int) (x8_3 : Int), v1 = .int .i64 x1_3 ∧ v8 = .int .i64 x8_3 ∧ Aside0 (insolvencyref1_AddDays.l0 kq x1_3 l2 x8_3 = some (r1, r2)) ∧ Aside0 (kq ≤ kj9) ∧ Drawn0 w w')
              case atStart => exact ⟨(a1), (x8_9), (by first | rfl | (simp; done) | (simp [*]; done)), (by first | rfl | (simp; done) | (simp [*]; done)), H', ⟨Nat.le_refl _⟩, by repeat (first | exact Drawn0.refl _ | apply Drawn0.step)⟩
              case round =>
                clear H'
                try clear c1
                try clear c2
                try clear p2
                try clear c4
                try clear c4b0
                try clear c4b1
                try clear c6
                try clear p6
                try clear c7
                try clear c8
                try clear c8b0
                try clear c9
                try clear c11
                try clear c11b0
                try clear p2
                try clear p6
                obtain ⟨x1_3, x8_3, rfl, rfl, HA, HK3, ⟨m3, rfl⟩⟩ := hrel
                cases gk with
                | zero => exact absurd HA.out (by simp [insolvencyref1_AddDays.l0])
                | succ k3 =>
                  have H := HA.out
                  clear HA
                  simp only [insolvencyref1_AddDays.l0] at H
                  by_cases c12 : x8_3 ≤ 1048576
                  · rw [if_pos c12] at H
                    have c12b0 : decide (x8_3 ≤ 1048576) = true := decide_eq_true c12
                    clear c12
                    replace H := Option.bind_eq_some_iff.mp H
                    obtain ⟨t126, A130, H⟩ := H
                    replace H : (if t126 = true then (if x1_3 ≤ 1 then (some (x8_3, 0)) else (insolvencyref1_AddDays.l0 k3 (wrap64 (x1_3 - 1)) l2 (wrap64 (x8_3 + 1)))) else (insolvencyref1_AddDays.l0 k3 x1_3 l2 (wrap64 (x8_3 + 1)))) = some (r1, r2) := H
                    have A13 := Aside0.mk A130
                    clear A130
                    by_cases c14 : t126 = true
                    · subst c14
                      have H1 : (if x1_3 ≤ 1 then (some (x8_3, 0)) else (insolvencyref1_AddDays.l0 k3 (wrap64 (x1_3 - 1)) l2 (wrap64 (x8_3 + 1)))) = some (r1, r2) := by rw [if_pos rfl] at H; exact H
                      clear H
                      have H := H1
                      clear H1
                      by_cases c15 : x1_3 ≤ 1
                      · rw [if_pos c15] at H
                        have c15b0 : decide (x1_3 ≤ 1) = true := decide_eq_true c15
                        clear c15
                        simp only [Option.some.injEq, Prod.mk.injEq] at H
                        obtain ⟨rfl, rfl⟩ := H
                        go_wp2_with (first | ((with_reducible refine gate_callee (f := 70) rfl ?_); refine goesL_ (some 34) rfl rfl Try.func70 (by kernel_rfl) rfl #[.int .i64 x8_3, .slice A2 l2.length c2] rfl (by (try simp only [List.map_toArray, List.map_cons, List.map_nil]); first | done | rfl | (simp only [List.length_drop, List.length_take]; rfl)) ?_; (with_reducible refine (insolvencyref1_IsBusiness.calls k3 x8_3 _ _ l2 true _ ?side1 ?side2 A13.out).mono ?_); (case side1 => repeat (first | exact HR2.out | (with_reducible refine Kd.C_alloc ?_ _) | (with_reducible refine Kd.C_drewN ?_ _) | (with_reducible refine Kd.C_drew ?_))); (case side2 => exact HC2.out); rintro e w' ⟨rfl, ⟨nd, rfl⟩⟩; refine ⟨_, rfl, ?_⟩))
                        go_ret2
                        exact ⟨by first | rfl | (simp; done) | (simp [*]; done), by repeat (first | exact Drawn0.refl _ | apply Drawn0.step)⟩
                      · rw [if_neg c15] at H
                        have c15b0 : decide (x1_3 ≤ 1) = false := decide_eq_false c15
                        clear c15
                        have H' := Aside0.mk H
                        clear H
                        go_wp2_with (first | ((with_reducible refine gate_callee (f := 70) rfl ?_); refine goesL_ (some 34) rfl rfl Try.func70 (by kernel_rfl) rfl #[.int .i64 x8_3, .slice A2 l2.length c2] rfl (by (try simp only [List.map_toArray, List.map_cons, List.map_nil]); first | done | rfl | (simp only [List.length_drop, List.length_take]; rfl)) ?_; (with_reducible refine (insolvencyref1_IsBusiness.calls k3 x8_3 _ _ l2 true _ ?side1 ?side2 A13.out).mono ?_); (case side1 => repeat (first | exact HR2.out | (with_reducible refine Kd.C_alloc ?_ _) | (with_reducible refine Kd.C_drewN ?_ _) | (with_reducible refine Kd.C_drew ?_))); (case side2 => exact HC2.out); rintro e w' ⟨rfl, ⟨nd, rfl⟩⟩; refine ⟨_, rfl, ?_⟩))
                        go_roundg k3
                        case measure => have := HJ4.out; have := HJ9.out; have := HK3.out; omega
                        case rel => exact ⟨(wrap64 (x1_3 - 1)), (wrap64 (x8_3 + 1)), (by first | rfl | (simp; done) | (simp [*]; done)), (by first | rfl | (simp; done) | (simp [*]; done)), H', ⟨by have := HJ4.out; have := HJ9.out; have := HK3.out; omega⟩, by repeat (first | exact Drawn0.refl _ | apply Drawn0.step)⟩
                    · replace c14 := Bool.eq_false_iff.mpr c14
                      subst c14
                      have H1 : (insolvencyref1_AddDays.l0 k3 x1_3 l2 (wrap64 (x8_3 + 1))) = some (r1, r2) := by rw [if_neg (show ¬ (false = true) by decide)] at H; exact H
                      clear H
                      have H := H1
                      clear H1
                      have H' := Aside0.mk H
                      clear H
                      go_wp2_with (first | ((with_reducible refine gate_callee (f := 70) rfl ?_); refine goesL_ (some 34) rfl rfl Try.func70 (by kernel_rfl) rfl #[.int .i64 x8_3, .slice A2 l2.length c2] rfl (by (try simp only [List.map_toArray, List.map_cons, List.map_nil]); first | done | rfl | (simp only [List.length_drop, List.length_take]; rfl)) ?_; (with_reducible refine (insolvencyref1_IsBusiness.calls k3 x8_3 _ _ l2 false _ ?side1 ?side2 A13.out).mono ?_); (case side1 => repeat (first | exact HR2.out | (with_reducible refine Kd.C_alloc ?_ _) | (with_reducible refine Kd.C_drewN ?_ _) | (with_reducible refine Kd.C_drew ?_))); (case side2 => exact HC2.out); rintro e w' ⟨rfl, ⟨nd, rfl⟩⟩; refine ⟨_, rfl, ?_⟩))
                      go_roundg k3
                      case measure => have := HJ4.out; have := HJ9.out; have := HK3.out; omega
                      case rel => exact ⟨(x1_3), (wrap64 (x8_3 + 1)), (by first | rfl | (simp; done) | (simp [*]; done)), (by first | rfl | (simp; done) | (simp [*]; done)), H', ⟨by have := HJ4.out; have := HJ9.out; have := HK3.out; omega⟩, by repeat (first | exact Drawn0.refl _ | apply Drawn0.step)⟩
                  · rw [if_neg c12] at H
                    have c12b0 : decide (x8_3 ≤ 1048576) = false := decide_eq_false c12
                    clear c12
                    simp only [Option.some.injEq, Prod.mk.injEq] at H
                    obtain ⟨rfl, rfl⟩ := H
                    go_wp2
                    go_ret2
                    exact ⟨by first | rfl | (simp; done) | (simp [*]; done), by repeat (first | exact Drawn0.refl _ | apply Drawn0.step)⟩

end Go.Proofs.Ytpfiecjacpbhkaa.F

/- What the calendar's functions and the references come to, in the words of the plain law: no condition but list lengths of at most 1000 where stated. -/
namespace Go.Proofs.Ytpfiecjacpbhkaa.Hx
open Go.RowKit Go.Proofs.YtpfiecjacpbhkaaW.PrintWords Go.Proofs.YtpfiecjacpbhkaaW.PrintLast Go.Proofs.YtpfiecjacpbhkaaW.PrintMore F Hm
set_option linter.unusedVariables false

theorem ev_const {α : Type} {o : Option α} {r : α} (h : o = some r) : Ev (fun _ => o) r := ⟨0, fun _ _ => h⟩
theorem ev_if {α : Type} {c : Prop} [Decidable c] {g f : Nat → Option α} {r : α} (h : c) (k : Ev g r) : Ev (fun n => if c then g n else f n) r := by
  obtain ⟨K, k⟩ := k
  exact ⟨K, fun n hn => by show (if c then g n else f n) = _; rw [if_pos h]; exact k n hn⟩
theorem ev_else {α : Type} {c : Prop} [Decidable c] {g f : Nat → Option α} {r : α} (h : ¬ c) (k : Ev f r) : Ev (fun n => if c then g n else f n) r := by
  obtain ⟨K, k⟩ := k
  exact ⟨K, fun n hn => by show (if c then g n else f n) = _; rw [if_neg h]; exact k n hn⟩
theorem ev_then {α β : Type} {o : Option α} {f : Nat → α → Option β} {a : α} {r : β} (h : o = some a) (k : Ev (fun n => f n a) r) : Ev (fun n => o.bind (f n)) r := by
  obtain ⟨K, k⟩ := k
  exact ⟨K, fun n hn => by show o.bind (f n) = _; rw [h]; exact k n hn⟩
theorem w64 (x : Int) (h0 : -9223372036854775808 ≤ x) (h1 : x ≤ 9223372036854775807) : wrap64 x = x := by
  unfold wrap64
  omega

/-! ### days -/
def isD (d : Int) : Bool := decide (0 ≤ d) && decide (d ≤ 1048576)
theorem isDay_some (d : Int) : calendar_isDay.f d = some (isD d) := by
  unfold calendar_isDay.f isD
  by_cases h : d ≥ 0
  · rw [if_pos h, decide_eq_true (show 0 ≤ d from h), Bool.true_and]
  · rw [if_neg h, decide_eq_false (show ¬ 0 ≤ d from h), Bool.false_and]
theorem refDay_some (d : Int) : insolvencyref1_IsDay.f d = some (isD d) := isDay_some d
theorem tmod_pos (d m : Int) (h : 0 ≤ d) : Int.tmod d m = d % m := Int.tmod_eq_emod_of_nonneg h
theorem tmod_neg (d m : Int) (h : d < 0) : Int.tmod d m = -((-d) % m) := by
  have e : Int.tmod d m = -(Int.tmod (-d) m) := by rw [Int.neg_tmod, Int.neg_neg]
  rw [e, tmod_pos (-d) m (by omega)]
theorem tmod7 (d : Int) : Int.tmod (wrap64 (Int.tmod d 7 + 7)) 7 = d % 7 := by
  by_cases h : 0 ≤ d
  · rw [tmod_pos d 7 h, w64 _ (by omega) (by omega), tmod_pos _ 7 (by omega)]
    omega
  · rw [tmod_neg d 7 (by omega), w64 _ (by omega) (by omega), tmod_pos _ 7 (by omega)]
    omega
theorem weekday_some (d : Int) : calendar_Weekday.f d = some (d % 7) := by
  unfold calendar_Weekday.f
  rw [tmod7]
theorem refWeekday_some (d : Int) : insolvencyref1_Weekday.f d = some (d % 7) := by
  unfold insolvencyref1_Weekday.f
  by_cases h0 : 0 ≤ d
  · rw [tmod_pos d 7 h0, if_neg (by omega)]
  · rw [tmod_neg d 7 (by omega)]
    by_cases h : -((-d) % 7) < 0
    · rw [if_pos h, w64 _ (by omega) (by omega)]
      congr 1
      omega
    · rw [if_neg h]
      congr 1
      omega

/-! ### the reference's IsBusiness -/
theorem has_ev (l : List Int) (d : Int) : ∀ (n i : Nat), i ≤ l.length → l.length - i = n → l.length ≤ 9223372036854775806 →
    Ev (fun k => insolvencyref1_has.l0 k l d (i : Int)) ((l.drop i).contains d) := by
  intro n
  induction n with
  | zero =>
    intro i hi hn hl
    refine Ev.step (f := fun _ => some false) (fun k => ?_) (by rw [List.drop_eq_nil_of_le (by omega)]; exact Ev.now false)
    rw [insolvencyref1_has.l0, if_neg (by omega)]
  | succ n ih =>
    intro i hi hn hl
    have hlt : i < l.length := by omega
    have e : l.drop i = l[i] :: l.drop (i + 1) := List.drop_eq_getElem_cons hlt
    rw [e, List.contains_cons]
    by_cases hd : rd l (i : Int) = d
    · refine Ev.step (f := fun _ => some true) (fun k => ?_) ?_
      · rw [insolvencyref1_has.l0, if_pos (by omega), if_pos (by omega), if_pos hd]
      · rw [rd_nat l i hlt] at hd
        rw [hd]
        simpa using Ev.now true
    · refine Ev.step (f := fun k => insolvencyref1_has.l0 k l d ((i + 1 : Nat) : Int)) (fun k => ?_) ?_
      · rw [insolvencyref1_has.l0, if_pos (by omega), if_pos (by omega), if_neg hd, w64 _ (by omega) (by omega)]
        rfl
      · rw [rd_nat l i hlt] at hd
        rw [show (d == l[i]) = false from by simpa using fun z => hd z.symm, Bool.false_or]
        exact ih (i + 1) (by omega) (by omega) hl
theorem refBus_ev (hs : List Int) (d : Int) (hl : hs.length ≤ 9223372036854775806) : Ev (fun k => insolvencyref1_IsBusiness.f k d hs) (bus hs d) := by
  unfold insolvencyref1_IsBusiness.f
  refine ev_then (refDay_some d) ?_
  have hb : bus hs d = (isD d && (decide (d % 7 < 5) && !hs.contains d)) := by unfold bus isD; rw [Bool.and_assoc]
  rw [hb]
  cases isD d with
  | false => exact ev_else (by simp) (Ev.now false)
  | true =>
    refine ev_if rfl (ev_then (refWeekday_some d) ?_)
    by_cases h5 : d % 7 < 5
    · rw [decide_eq_true h5]
      refine ev_if h5 ?_
      have := has_ev hs d hs.length 0 (by omega) (by omega) hl
      rw [List.drop_zero] at this
      simp only [Bool.true_and]
      exact Ev.bind (f := fun _ t => some (!t)) this (Ev.now _)
    · rw [decide_eq_false h5]
      exact ev_else h5 (Ev.now false)

/-! ### the list of closed days -/
theorem sorted_loop (hs : List Int) (hl : hs.length ≤ 1000) : ∀ (n i : Nat) (acc : List Int), i ≤ hs.length → hs.length - i = n → acc.length ≤ i →
    Ev (fun k => calendar_sorted.l0 k acc hs (hs.length : Int) (i : Int)) (Lib.compact ((acc ++ (hs.drop i).filter fun h => decide (0 ≤ h) && (decide (h ≤ 1048576) && decide (h % 7 < 5))).mergeSort fun x y => decide (x ≤ y))) := by
  intro n
  induction n with
  | zero =>
    intro i acc hi hn ha
    refine Ev.step (f := fun _ => some (Lib.compact (acc.mergeSort fun x y => decide (x ≤ y)))) (fun k => ?_) ?_
    · rw [calendar_sorted.l0, if_neg (by omega)]
      simp [Hw.slices_Sort_closed.f, Hw.slices_Compact_closed.f, show acc.length < 4611686018427387904 by omega]
    · rw [List.drop_eq_nil_of_le (by omega), List.filter_nil, List.append_nil]
      exact Ev.now _
  | succ n ih =>
    intro i acc hi hn ha
    have hlt : i < hs.length := by omega
    have e : hs.drop i = hs[i] :: hs.drop (i + 1) := List.drop_eq_getElem_cons hlt
    have er : rd hs (i : Int) = hs[i] := rd_nat hs i hlt
    rw [e, List.filter_cons]
    have go : ∀ acc' : List Int, acc'.length ≤ i + 1 → Ev (fun k => calendar_sorted.l0 k acc' hs (hs.length : Int) (wrap64 ((i : Int) + 1))) (Lib.compact ((acc' ++ (hs.drop (i + 1)).filter fun h => decide (0 ≤ h) && (decide (h ≤ 1048576) && decide (h % 7 < 5))).mergeSort fun x y => decide (x ≤ y))) := by
      intro acc' ha'
      rw [w64 _ (by omega) (by omega)]
      exact ih (i + 1) acc' (by omega) (by omega) ha'
    by_cases hd : isD hs[i] = true
    · by_cases h5 : hs[i] % 7 < 5
      · rw [if_pos (by simp only [isD, Bool.and_eq_true, decide_eq_true_eq] at hd ⊢; exact ⟨hd.1, hd.2, h5⟩)]
        refine Ev.step (f := fun k => calendar_sorted.l0 k (acc ++ [hs[i]]) hs (hs.length : Int) (wrap64 ((i : Int) + 1))) (fun k => ?_) ?_
        · rw [calendar_sorted.l0, if_pos (by omega), if_pos (by omega), if_pos (by omega), er, isDay_some, Option.bind_some, if_pos hd, weekday_some, Option.bind_some, if_pos h5, if_pos (by omega)]
        · have := go (acc ++ [hs[i]]) (by simp; omega)
          rw [List.append_assoc] at this
          exact this
      · rw [if_neg (by simp only [Bool.and_eq_true, decide_eq_true_eq]; intro z; exact h5 z.2.2)]
        refine Ev.step (f := fun k => calendar_sorted.l0 k acc hs (hs.length : Int) (wrap64 ((i : Int) + 1))) (fun k => ?_) (go acc (by omega))
        rw [calendar_sorted.l0, if_pos (by omega), if_pos (by omega), if_pos (by omega), er, isDay_some, Option.bind_some, if_pos hd, weekday_some, Option.bind_some, if_neg h5]
    · rw [if_neg (by simp only [isD, Bool.and_eq_true, decide_eq_true_eq] at hd ⊢; intro z; exact hd ⟨z.1, z.2.1⟩)]
      refine Ev.step (f := fun k => calendar_sorted.l0 k acc hs (hs.length : Int) (wrap64 ((i : Int) + 1))) (fun k => ?_) (go acc (by omega))
      rw [calendar_sorted.l0, if_pos (by omega), if_pos (by omega), if_pos (by omega), er, isDay_some, Option.bind_some, if_neg hd]
theorem sorted_ev (hs : List Int) (hl : hs.length ≤ 1000) : Ev (fun k => calendar_sorted.f k hs) (closedOf hs) := by
  have := sorted_loop hs hl hs.length 0 [] (by omega) (by omega) (by simp)
  rw [List.drop_zero, List.nil_append] at this
  exact this

/-! ### before, nth -/
theorem before_some (hs c : List Int) (hc : IsClosed hs c) (hl : c.length ≤ 1000) (d : Nat) (hd : d ≤ 1048577) : E.calendar_closed_before.f c (d : Int) = some (cnt hs d : Int) := by
  have h1 := cnt_closed hc d hd
  have h2 := bs_nb c (d : Int) hc.1
  have h3 := nb_le c (d : Int)
  have h4 := cnt_le hs d
  unfold E.calendar_closed_before.f Hw.sort_SearchInts.f
  rw [if_pos (by omega), Option.bind_some, h2]
  have e : mn (Int.tmod (d : Int) 7) 5 = ((min (d % 7) 5 : Nat) : Int) := by
    rw [tmod_pos _ 7 (by omega)]
    unfold mn
    split <;> omega
  have e2 : Int.tdiv (d : Int) 7 = (d : Int) / 7 := Int.tdiv_eq_ediv_of_nonneg (by omega)
  rw [e, e2, w64 ((d : Int) / 7) (by omega) (by omega)]
  unfold wk at h1
  rw [w64 ((d : Int) / 7 * 5) (by omega) (by omega), w64 (_ + _) (by omega) (by omega), w64 _ (by omega) (by omega)]
  congr 1
  omega
theorem nth_some (hs c : List Int) (hc : IsClosed hs c) (hl : c.length ≤ 1000) (m : Int) (hm : 0 ≤ m) : ∃ r, Hw.calendar_closed_nth.f c m = some r ∧ IsRes hs m r := by
  unfold Hw.calendar_closed_nth.f
  rw [if_pos (by omega)]
  refine ⟨_, ?_, res_of_bs hm (p := Hw.nthP c m) (fun d hd => ?_)⟩
  · split <;> rfl
  · unfold Hw.nthP
    have := before_some hs c hc hl (d + 1) (by omega)
    rw [show ((d + 1 : Nat) : Int) = (d : Int) + 1 by omega] at this
    rw [this]
    rfl

/-! ### Add -/
/-- How many business days may lie up to the answer, less one. -/
def mOf (hs : List Int) (day n : Int) : Int := if n = 0 then (cnt hs day.toNat : Int) else (cnt hs (day.toNat + 1) : Int) + n - 1
/-- What Add answers. -/
def IsAdd (hs : List Int) (day n : Int) (r : Int × Int) : Prop :=
  if (hs.length : Int) > 1000 then r = (0, 2) else if isD day = true ∧ 0 ≤ n ∧ n ≤ 1048576 then IsRes hs (mOf hs day n) r else r = (0, 1)
theorem IsAdd.unique {hs : List Int} {day n : Int} {x y : Int × Int} (h : IsAdd hs day n x) (k : IsAdd hs day n y) : x = y := by
  unfold IsAdd at h k
  by_cases h1 : (hs.length : Int) > 1000
  · rw [if_pos h1] at h k; rw [h, k]
  · rw [if_neg h1] at h k
    by_cases h2 : isD day = true ∧ 0 ≤ n ∧ n ≤ 1048576
    · rw [if_pos h2] at h k; exact h.unique k
    · rw [if_neg h2] at h k; rw [h, k]
theorem IsAdd.long {hs : List Int} {day n : Int} (h : (hs.length : Int) > 1000) : IsAdd hs day n (0, 2) := by unfold IsAdd; rw [if_pos h]
theorem IsAdd.ok {hs : List Int} {day n : Int} {r : Int × Int} (h : ¬ (hs.length : Int) > 1000) (h2 : isD day = true ∧ 0 ≤ n ∧ n ≤ 1048576) (hr : IsRes hs (mOf hs day n) r) : IsAdd hs day n r := by unfold IsAdd; rw [if_neg h, if_pos h2]; exact hr
theorem IsAdd.bad {hs : List Int} {day n : Int} (h : ¬ (hs.length : Int) > 1000) (h2 : ¬ (isD day = true ∧ 0 ≤ n ∧ n ≤ 1048576)) : IsAdd hs day n (0, 1) := by unfold IsAdd; rw [if_neg h, if_neg h2]
theorem mOf_nonneg (hs : List Int) (day n : Int) (hn : 0 ≤ n) : 0 ≤ mOf hs day n := by
  unfold mOf
  split <;> omega
theorem add_ev (hs : List Int) (day n : Int) : ∃ r, Ev (fun k => calendar_Add.f k day n hs) r ∧ IsAdd hs day n r := by
  unfold calendar_Add.f
  by_cases h1 : (hs.length : Int) > 1000
  · exact ⟨(0, 2), ev_if h1 (Ev.now _), IsAdd.long h1⟩
  have bad : ∀ b : Bool, b = true → Ev (fun k => calendar_Add.j0 k day n hs b) ((0, 1) : Int × Int) := by
    rintro b rfl
    refine Ev.step (f := fun _ => some (0, 1)) (fun k => ?_) (Ev.now _)
    rw [calendar_Add.j0, if_pos rfl]
  by_cases h2 : isD day = true ∧ 0 ≤ n ∧ n ≤ 1048576
  · have h2' := h2
    obtain ⟨hd, hn0, hn1⟩ := h2
    have hd' := hd
    simp only [isD, Bool.and_eq_true, decide_eq_true_eq] at hd'
    obtain ⟨d, rfl⟩ := Int.eq_ofNat_of_zero_le hd'.1
    have hcl := closedOf_closed hs
    have hln : (closedOf hs).length ≤ 1000 := by have := closedOf_length hs; omega
    obtain ⟨r, hr, hres⟩ := nth_some hs (closedOf hs) hcl hln (mOf hs (d : Int) n) (mOf_nonneg _ _ _ hn0)
    refine ⟨r, ?_, IsAdd.ok h1 h2' hres⟩
    refine ev_else h1 (ev_then (isDay_some _) (ev_if hd (ev_else (show ¬ n < 0 by omega) ?_)))
    rw [decide_eq_false (show ¬ n > 1048576 by omega)]
    refine Ev.step (f := fun k => (calendar_sorted.f k hs).bind fun t => _) (fun k => ?_) (Ev.bind (f := fun _ t => if n = 0 then ((E.calendar_closed_before.f t (d : Int)).bind fun t115 => ((Hw.calendar_closed_nth.f t t115).bind fun bt116 => (some (bt116.1, bt116.2)))) else ((E.calendar_closed_before.f t (wrap64 ((d : Int) + 1))).bind fun t118 => ((Hw.calendar_closed_nth.f t (wrap64 ((wrap64 (t118 + n)) - 1))).bind fun bt119 => (some (bt119.1, bt119.2))))) (sorted_ev hs (by omega)) ?_)
    · rw [calendar_Add.j0, if_neg (by simp)]
    · have hdn : d ≤ 1048576 := by omega
      have c1 := cnt_le hs (d + 1)
      unfold mOf at hr
      rw [Int.toNat_natCast] at hr
      by_cases h0 : n = 0
      · rw [if_pos h0] at hr ⊢
        rw [before_some hs _ hcl hln d (by omega), Option.bind_some, hr]
        exact Ev.now _
      · rw [if_neg h0] at hr ⊢
        rw [w64 ((d : Int) + 1) (by omega) (by omega), show ((d : Int) + 1) = ((d + 1 : Nat) : Int) by omega, before_some hs _ hcl hln (d + 1) (by omega), Option.bind_some, w64 (_ + n) (by omega) (by omega), w64 _ (by omega) (by omega), hr]
        exact Ev.now _
  · refine ⟨(0, 1), ?_, IsAdd.bad h1 h2⟩
    refine ev_else h1 (ev_then (isDay_some _) ?_)
    by_cases hd : isD day = true
    · refine ev_if hd ?_
      by_cases hn : n < 0
      · exact ev_if hn (bad _ rfl)
      · exact ev_else hn (bad _ (decide_eq_true (show n > 1048576 from by
          have h3 : ¬ (0 ≤ n ∧ n ≤ 1048576) := fun z => h2 ⟨hd, z⟩
          omega)))
    · exact ev_else hd (bad _ rfl)

/-! ### the reference's AddDays -/
theorem refLoop (hs : List Int) (hl : hs.length ≤ 1000) : ∀ (j d : Nat) (n : Int), d ≤ 1048577 → 1048577 - d = j → 0 ≤ n → n ≤ 1048576 →
    ∃ r, Ev (fun k => insolvencyref1_AddDays.l0 k n hs (d : Int)) r ∧ IsRes hs ((cnt hs d : Int) + (if n ≤ 1 then 1 else n) - 1) r := by
  intro j
  induction j with
  | zero =>
    intro d n hd hj h0 h1
    obtain rfl : d = 1048577 := by omega
    refine ⟨(0, 1), Ev.step (f := fun _ => some (0, 1)) (fun k => ?_) (Ev.now _), .inr ⟨rfl, by split <;> omega⟩⟩
    rw [insolvencyref1_AddDays.l0, if_neg (by omega)]
  | succ j ih =>
    intro d n hd hj h0 h1
    have hb := refBus_ev hs (d : Int) (by omega)
    have hc : cnt hs (d + 1) = cnt hs d + if bus hs (d : Int) = true then 1 else 0 := rfl
    have unf : ∀ k, insolvencyref1_AddDays.l0 (k + 1) n hs (d : Int) = (insolvencyref1_IsBusiness.f k (d : Int) hs).bind fun t => if t = true then (if n ≤ 1 then some ((d : Int), 0) else insolvencyref1_AddDays.l0 k (wrap64 (n - 1)) hs (wrap64 ((d : Int) + 1))) else insolvencyref1_AddDays.l0 k n hs (wrap64 ((d : Int) + 1)) := fun k => by
      rw [insolvencyref1_AddDays.l0, if_pos (by omega)]
    have e1 : wrap64 ((d : Int) + 1) = ((d + 1 : Nat) : Int) := by rw [w64 _ (by omega) (by omega)]; omega
    by_cases hbus : bus hs (d : Int) = true
    · rw [if_pos hbus] at hc
      by_cases hn : n ≤ 1
      · refine ⟨((d : Int), 0), Ev.step unf (Ev.bind hb ?_), .inl ⟨d, by omega, rfl, by rw [if_pos hn]; omega, by rw [if_pos hn]; omega⟩⟩
        exact ev_if hbus (ev_if hn (Ev.now _))
      · obtain ⟨r, hr, hres⟩ := ih (d + 1) (n - 1) (by omega) (by omega) (by omega) (by omega)
        refine ⟨r, Ev.step unf (Ev.bind hb ?_), ?_⟩
        · refine ev_if hbus (ev_else hn ?_)
          rw [e1, w64 (n - 1) (by omega) (by omega)]
          exact hr
        · rw [if_neg hn]
          rw [hc] at hres
          by_cases h2 : n - 1 ≤ 1
          · rw [if_pos h2] at hres
            rw [show (cnt hs d : Int) + n - 1 = ((cnt hs d + 1 : Nat) : Int) + 1 - 1 by omega]
            exact hres
          · rw [if_neg h2] at hres
            rw [show (cnt hs d : Int) + n - 1 = ((cnt hs d + 1 : Nat) : Int) + (n - 1) - 1 by omega]
            exact hres
    · obtain ⟨r, hr, hres⟩ := ih (d + 1) n (by omega) (by omega) h0 h1
      refine ⟨r, Ev.step unf (Ev.bind hb ?_), ?_⟩
      · refine ev_else hbus ?_
        rw [e1]
        exact hr
      · rw [if_neg hbus] at hc
        rw [hc] at hres
        exact hres
theorem refAdd_ev (hs : List Int) (day n : Int) : ∃ r, Ev (fun k => insolvencyref1_AddDays.f k day n hs) r ∧ IsAdd hs day n r := by
  unfold insolvencyref1_AddDays.f
  by_cases h1 : (hs.length : Int) > 1000
  · exact ⟨(0, 2), ev_if h1 (Ev.now _), IsAdd.long h1⟩
  have bad : ∀ b : Bool, b = true → Ev (fun k => insolvencyref1_AddDays.j0 k day n hs b) ((0, 1) : Int × Int) := by
    rintro b rfl
    refine Ev.step (f := fun _ => some (0, 1)) (fun k => ?_) (Ev.now _)
    rw [insolvencyref1_AddDays.j0, if_pos rfl]
  by_cases h2 : isD day = true ∧ 0 ≤ n ∧ n ≤ 1048576
  · have h2' := h2
    obtain ⟨hd, hn0, hn1⟩ := h2
    have hd' := hd
    simp only [isD, Bool.and_eq_true, decide_eq_true_eq] at hd'
    obtain ⟨d, rfl⟩ := Int.eq_ofNat_of_zero_le hd'.1
    have start : ∃ r, Ev (fun k => insolvencyref1_AddDays.j0 k (d : Int) n hs false) r ∧ IsRes hs (mOf hs (d : Int) n) r := by
      unfold mOf
      rw [Int.toNat_natCast]
      by_cases h0 : n = 0
      · obtain ⟨r, hr, hres⟩ := refLoop hs (by omega) _ d n (by omega) rfl (by omega) hn1
        refine ⟨r, Ev.step (f := fun k => insolvencyref1_AddDays.j1 k n hs (d : Int)) (fun k => ?_) (Ev.step (f := fun k => insolvencyref1_AddDays.l0 k n hs (d : Int)) (fun k => ?_) hr), ?_⟩
        · rw [insolvencyref1_AddDays.j0, if_neg (by simp), if_neg (by omega)]
        · rw [insolvencyref1_AddDays.j1]
        · rw [if_pos h0]
          rw [if_pos (by omega : n ≤ 1)] at hres
          rw [show (cnt hs d : Int) + 1 - 1 = (cnt hs d : Int) by omega] at hres
          exact hres
      · obtain ⟨r, hr, hres⟩ := refLoop hs (by omega) _ (d + 1) n (by omega) rfl (by omega) hn1
        refine ⟨r, Ev.step (f := fun k => insolvencyref1_AddDays.j1 k n hs ((d + 1 : Nat) : Int)) (fun k => ?_) (Ev.step (f := fun k => insolvencyref1_AddDays.l0 k n hs ((d + 1 : Nat) : Int)) (fun k => ?_) hr), ?_⟩
        · rw [insolvencyref1_AddDays.j0, if_neg (by simp), if_pos (by omega), w64 _ (by omega) (by omega)]
          rfl
        · rw [insolvencyref1_AddDays.j1]
        · rw [if_neg h0]
          by_cases h3 : n ≤ 1
          · rw [if_pos h3] at hres
            rw [show n = 1 by omega]
            exact hres
          · rw [if_neg h3] at hres
            exact hres
    obtain ⟨r, hr, hres⟩ := start
    refine ⟨r, ?_, IsAdd.ok h1 h2' hres⟩
    refine ev_else h1 (ev_then (refDay_some _) (ev_if hd (ev_else (show ¬ n < 0 by omega) ?_)))
    rw [decide_eq_false (show ¬ n > 1048576 by omega)]
    exact hr
  · refine ⟨(0, 1), ?_, IsAdd.bad h1 h2⟩
    refine ev_else h1 (ev_then (refDay_some _) ?_)
    by_cases hd : isD day = true
    · refine ev_if hd ?_
      by_cases hn : n < 0
      · exact ev_if hn (bad _ rfl)
      · exact ev_else hn (bad _ (decide_eq_true (show n > 1048576 from by
          have h3 : ¬ (0 ≤ n ∧ n ≤ 1048576) := fun z => h2 ⟨hd, z⟩
          omega)))
    · exact ev_else hd (bad _ rfl)
/-- Add and AddDays answer alike. -/
theorem adds (hs : List Int) (day n : Int) : ∃ r, Ev (fun k => calendar_Add.f k day n hs) r ∧ Ev (fun k => insolvencyref1_AddDays.f k day n hs) r ∧ IsAdd hs day n r := by
  obtain ⟨r, h1, h2⟩ := add_ev hs day n
  obtain ⟨q, k1, k2⟩ := refAdd_ev hs day n
  obtain rfl := h2.unique k2
  exact ⟨r, h1, k1, h2⟩
end Go.Proofs.Ytpfiecjacpbhkaa.Hx

/- What the Go functions named below come to, each told as_ a Lean function ('.f'), with the proof ('.calls'): no condition beyond those that each theorem states. Written by a program of this session's over the translation. -/
namespace Go.Proofs.Ytpfiecjacpbhkaa.D
open Go.RowKit Go.Proofs.YtpfiecjacpbhkaaW.PrintWords Go.Proofs.YtpfiecjacpbhkaaW.PrintLast Go.Proofs.YtpfiecjacpbhkaaW.PrintMore
attribute [local go_sem] max2_int min2_int max_two min_two max_three min_three max_four min_four   -- for this text's walks alone
set_option linter.unusedVariables false
set_option linter.unusedSimpArgs false

theorem eqA50 (d : Nat) (w : World) (x0 y0 : Int) (x1 y1 : Int) (x2 y2 : Int) (x3 y3 : Int) (x4 y4 : Bool) :
    (Op.equalIn (d + 2) 50 (.agg #[.int .i64 x0, .int .i64 x1, .int .i64 x2, .int .i64 x3, .bool x4]) (.agg #[.int .i64 y0, .int .i64 y1, .int .i64 y2, .int .i64 y3, .bool y4])).run Try.prog w = .ok (x0 == y0 && (x1 == y1 && (x2 == y2 && (x3 == y3 && (x4 == y4))))) w := by
  refine eqA_of Try.underlying50 (by kernel_rfl) ?_
  refine eqf_cons (by rfl) (by go_simp; rfl) (by go_simp; rfl) (by go_simp) ?_
  refine eqf_cons (by rfl) (by go_simp; rfl) (by go_simp; rfl) (by go_simp) ?_
  refine eqf_cons (by rfl) (by go_simp; rfl) (by go_simp; rfl) (by go_simp) ?_
  refine eqf_cons (by rfl) (by go_simp; rfl) (by go_simp; rfl) (by go_simp) ?_
  exact eqf_last (by rfl) (by go_simp; rfl) (by go_simp; rfl) (by go_simp)
end Go.Proofs.Ytpfiecjacpbhkaa.D

/- What the Go functions named below come to, each told as_ a Lean function ('.f'), with the proof ('.calls'): no condition beyond those that each theorem states. Written by a program of this session's over the translation. -/
namespace Go.Proofs.Ytpfiecjacpbhkaa.D
open Go.RowKit Go.Proofs.YtpfiecjacpbhkaaW.PrintWords Go.Proofs.YtpfiecjacpbhkaaW.PrintLast Go.Proofs.YtpfiecjacpbhkaaW.PrintMore
attribute [local go_sem] max2_int min2_int max_two min_two max_three min_three max_four min_four   -- for this text's walks alone
set_option linter.unusedVariables false
set_option linter.unusedSimpArgs false

/-! ### insolvencyref1_SameInts: function 33 -/
def insolvencyref1_SameInts.l0 : Nat → List Int → List Int → Int → Option (Bool)
 | 0, _, _, _ => none
 | k + 1, x0, x1, x5 => if x5 < (x0.length : Int) then (if 0 ≤ x5 then (if x5 < (x1.length : Int) then (if (rd x0 x5) = (rd x1 x5) then (insolvencyref1_SameInts.l0 k x0 x1 (wrap64 (x5 + 1))) else (none)) else (none)) else (none)) else (some true)
def insolvencyref1_SameInts.f (k : Nat) (l0 : List Int) (l1 : List Int) : Option (Bool) := if (l0.length : Int) = (l1.length : Int) then (insolvencyref1_SameInts.l0 k l0 l1 0) else (none)
theorem insolvencyref1_SameInts.mono_l : ∀ k, (∀ y0 y1 y2, LeO (insolvencyref1_SameInts.l0 k y0 y1 y2) (insolvencyref1_SameInts.l0 (k + 1) y0 y1 y2))
 | 0 => fun _ _ _ r h => by simp [insolvencyref1_SameInts.l0] at h
 | k + 1 => by
  have ih0 := insolvencyref1_SameInts.mono_l k
  ·intro y0 y1 y2
   unfold insolvencyref1_SameInts.l0
   repeat' first
   | (with_reducible exact ih0 _ _ _)
   | (with_reducible exact LeO.refl _)
   | (with_reducible exact LeO.none _)
   | (with_reducible refine LeO.ite ?_ ?_)
   | (with_reducible refine LeO.bind ?_ (fun _ => ?_))
   | exact ih0 _ _ _
   | exact LeO.none _
   | refine LeO.ite ?_ ?_
   | refine LeO.bind ?_ (fun _ => ?_)
theorem insolvencyref1_SameInts.mono : ∀ a0 a1 k, LeO (insolvencyref1_SameInts.f k a0 a1) (insolvencyref1_SameInts.f (k + 1) a0 a1) := by
 intro a0 a1 k
 have ih0 := insolvencyref1_SameInts.mono_l k
 unfold insolvencyref1_SameInts.f
 repeat' first
   | (with_reducible exact ih0 _ _ _)
   | (with_reducible exact LeO.refl _)
   | (with_reducible exact LeO.none _)
   | (with_reducible refine LeO.ite ?_ ?_)
   | (with_reducible refine LeO.bind ?_ (fun _ => ?_))
   | exact ih0 _ _ _
   | exact LeO.none _
   | refine LeO.ite ?_ ?_
   | refine LeO.bind ?_ (fun _ => ?_)
set_option maxHeartbeats 8000000 in
set_option maxRecDepth 100000 in
theorem insolvencyref1_SameInts.calls (k : Nat) (A0 : Option Addr) (c0 : Nat) (l0 : List Int) (A1 : Option Addr) (c1 : Nat) (l1 : List Int) (r : Bool) (w : World) (hr0 : Kd.C (Kd.int .i64) w A0 l0.length l0) (hc0 : l0.length ≤ c0) (hr1 : Kd.C (Kd.int .i64) w A1 l1.length l1) (hc1 : l1.length ≤ c1) (h : insolvencyref1_SameInts.f k l0 l1 = some r) :
  Calls Try.prog 33 #[.slice A0 l0.length c0, .slice A1 l1.length c1] w fun e w' => e = .returned (.bool r) ∧ Drawn0 w w' := by
 have HR0 := Aside0.mk hr0
 have HC0 := Aside0.mk hc0
 clear hr0 hc0
 have HR1 := Aside0.mk hr1
 have HC1 := Aside0.mk hc1
 clear hr1 hc1
 have H : (if (l0.length : Int) = (l1.length : Int) then (insolvencyref1_SameInts.l0 k l0 l1 0) else (none)) = some r := h
 clear h
 by_cases c3 : (l0.length : Int) = (l1.length : Int)
 ·rw [if_pos c3] at H
  have c3b0 : ((l0.length : Int) == (l1.length : Int)) = true := beq_iff_eq.mpr c3
  have c3b1 : ((l0.length : Int) != (l1.length : Int)) = false := bne_eq_false_iff_eq.mpr c3
  have c3b2 : (l0.length == l1.length) = true := by first | simpa using c3 | (simp at c3 ⊢; omega)
  clear c3
  have H' := Aside0.mk H
  clear H
  go_enter Try.func33, Try.ntmps33
  go_wp2
  repeat (go_quiet (fail); try go_wp2)
  go_loopg [5] k (fun kq v5 w' => ∃ (x5_1 : Int), v5 = .int .i64 x5_1 ∧ Aside0 (insolvencyref1_SameInts.l0 kq l0 l1 x5_1 = some r) ∧ Aside0 (kq ≤ k) ∧ Drawn0 w w')
  case atStart => exact ⟨(0), (by first | rfl | (simp; done) | (simp [*]; done)), H', ⟨Nat.le_refl _⟩, by repeat (first | exact Drawn0.refl _ | apply Drawn0.step)⟩
  case round =>
   clear H'
   try clear c1
   try clear p2
   try clear c3
   try clear c3b0
   try clear c3b1
   try clear c3b2
   obtain ⟨x5_1, rfl, HA, HK1, ⟨m1, rfl⟩⟩ := hrel
   cases gk with
   | zero => exact absurd HA.out (by simp [insolvencyref1_SameInts.l0])
   | succ k1 =>
    have H := HA.out
    clear HA
    simp only [insolvencyref1_SameInts.l0] at H
    by_cases c4 : x5_1 < (l0.length : Int)
    ·rw [if_pos c4] at H
     have c4b0 : decide (x5_1 < (l0.length : Int)) = true := decide_eq_true c4
     clear c4
     by_cases c5 : 0 ≤ x5_1
     ·rw [if_pos c5] at H
      have c5b0 : decide (0 ≤ x5_1) = true := decide_eq_true c5
      clear c5
      by_cases c6 : x5_1 < (l1.length : Int)
      ·rw [if_pos c6] at H
       have c6b0 : decide (x5_1 < (l1.length : Int)) = true := decide_eq_true c6
       clear c6
       by_cases c7 : (rd l0 x5_1) = (rd l1 x5_1)
       ·rw [if_pos c7] at H
        have c7b0 : ((rd l0 x5_1) == (rd l1 x5_1)) = true := beq_iff_eq.mpr c7
        have c7b1 : ((rd l0 x5_1) != (rd l1 x5_1)) = false := bne_eq_false_iff_eq.mpr c7
        clear c7
        have H' := Aside0.mk H
        clear H
        have p243 : 0 ≤ (x5_1 : Int) := of_decide_eq_true (by first | (with_reducible assumption) | assumption)
        have q243 : x5_1 < (l0.length : Int) := of_decide_eq_true (by first | (with_reducible assumption) | assumption)
        obtain ⟨ad243, e243, hx243_0⟩ := Kd.at_int HR0.out x5_1 p243 q243
        cases e243
        replace p243 := eq_true p243
        replace q243 := eq_true q243
        have p244 : 0 ≤ (x5_1 : Int) := of_decide_eq_true (by first | (with_reducible assumption) | assumption)
        have q244 : x5_1 < (l1.length : Int) := of_decide_eq_true (by first | (with_reducible assumption) | assumption)
        obtain ⟨ad244, e244, hx244_0⟩ := Kd.at_int HR1.out x5_1 p244 q244
        cases e244
        replace p244 := eq_true p244
        replace q244 := eq_true q244
        go_wp2
        repeat (go_quiet (fail); try go_wp2)
        go_roundg k1
        case measure => have := HK1.out; omega
        case rel => exact ⟨(wrap64 (x5_1 + 1)), (by first | rfl | (simp; done) | (simp [*]; done)), H', ⟨by have := HK1.out; omega⟩, by repeat (first | exact Drawn0.refl _ | apply Drawn0.step)⟩
       ·rw [if_neg c7] at H
        exact absurd H (by simp)
      ·rw [if_neg c6] at H
       exact absurd H (by simp)
     ·rw [if_neg c5] at H
      exact absurd H (by simp)
    ·rw [if_neg c4] at H
     have c4b0 : decide (x5_1 < (l0.length : Int)) = false := decide_eq_false c4
     clear c4
     obtain rfl := Option.some.inj H
     go_wp2
     repeat (go_quiet (fail); try go_wp2)
     go_ret
     exact ⟨by first | rfl | (simp; done) | (simp [*]; done), by repeat (first | exact Drawn0.refl _ | apply Drawn0.step)⟩
 ·rw [if_neg c3] at H
  exact absurd H (by simp)

end Go.Proofs.Ytpfiecjacpbhkaa.D

/- What the Go functions named below come to, each told as_ a Lean function ('.f'), with the proof ('.calls'): no condition beyond those that each theorem states. Written by a program of this session's over the translation. -/
namespace Go.Proofs.Ytpfiecjacpbhkaa.D
open Go.RowKit Go.Proofs.YtpfiecjacpbhkaaW.PrintWords Go.Proofs.YtpfiecjacpbhkaaW.PrintLast Go.Proofs.YtpfiecjacpbhkaaW.PrintMore
attribute [local go_sem] max2_int min2_int max_two min_two max_three min_three max_four min_four   -- for this text's walks alone
set_option linter.unusedVariables false
set_option linter.unusedSimpArgs false

attribute [local go_sem high] eqA50
/-! ### insolvencyref33_SameDocket: function 15 -/
mutual
def insolvencyref33_SameDocket.j0 : Nat → Bool → Int → Int → Int → List Int → List (S50) → Int → Int → Int → List Int → List (S50) → Option (Bool)
 | 0, _, _, _, _, _, _, _, _, _, _, _ => none
 | k + 1, x47, x246000, x246001, x246002, x246003, x246004, x247000, x247001, x247002, x247003, x247004 => if x47 = true then (none) else (insolvencyref33_SameDocket.l0 k 0 x246000 x246001 x246002 x246003 x246004 x247000 x247001 x247002 x247003 x247004)
def insolvencyref33_SameDocket.l0 : Nat → Int → Int → Int → Int → List Int → List (S50) → Int → Int → Int → List Int → List (S50) → Option (Bool)
 | 0, _, _, _, _, _, _, _, _, _, _, _ => none
 | k + 1, x5, x246000, x246001, x246002, x246003, x246004, x247000, x247001, x247002, x247003, x247004 => if x5 < (x246004.length : Int) then (if 0 ≤ x5 then (if x5 < (x247004.length : Int) then (if (!(((rd_T50 x246004 x5).f0) == ((rd_T50 x247004 x5).f0)) || (!(((rd_T50 x246004 x5).f1) == ((rd_T50 x247004 x5).f1)) || (!(((rd_T50 x246004 x5).f2) == ((rd_T50 x247004 x5).f2)) || (!(((rd_T50 x246004 x5).f3) == ((rd_T50 x247004 x5).f3)) || (!(((rd_T50 x246004 x5).f4) == ((rd_T50 x247004 x5).f4))))))) = true then (none) else (insolvencyref33_SameDocket.l0 k (wrap64 (x5 + 1)) x246000 x246001 x246002 x246003 x246004 x247000 x247001 x247002 x247003 x247004)) else (none)) else (none)) else (some true)
end
def insolvencyref33_SameDocket.f (k : Nat) (a0_0 : Int) (a0_1 : Int) (a0_2 : Int) (l0_3 : List Int) (l0_4 : List (S50)) (a1_0 : Int) (a1_1 : Int) (a1_2 : Int) (l1_3 : List Int) (l1_4 : List (S50)) : Option (Bool) := if a0_0 = a1_0 then (if a0_1 = a1_1 then (if a0_2 = a1_2 then ((insolvencyref1_SameInts.f k l0_3 l1_3).bind fun t247 => (if t247 = true then (insolvencyref33_SameDocket.j0 k ((l0_4.length : Int) != (l1_4.length : Int)) a0_0 a0_1 a0_2 l0_3 l0_4 a1_0 a1_1 a1_2 l1_3 l1_4) else (insolvencyref33_SameDocket.j0 k true a0_0 a0_1 a0_2 l0_3 l0_4 a1_0 a1_1 a1_2 l1_3 l1_4))) else (insolvencyref33_SameDocket.j0 k true a0_0 a0_1 a0_2 l0_3 l0_4 a1_0 a1_1 a1_2 l1_3 l1_4)) else (insolvencyref33_SameDocket.j0 k true a0_0 a0_1 a0_2 l0_3 l0_4 a1_0 a1_1 a1_2 l1_3 l1_4)) else (insolvencyref33_SameDocket.j0 k true a0_0 a0_1 a0_2 l0_3 l0_4 a1_0 a1_1 a1_2 l1_3 l1_4)
theorem insolvencyref33_SameDocket.mono_l : ∀ k, (∀ y0 y1 y2 y3 y4 y5 y6 y7 y8 y9 y10, LeO (insolvencyref33_SameDocket.j0 k y0 y1 y2 y3 y4 y5 y6 y7 y8 y9 y10) (insolvencyref33_SameDocket.j0 (k + 1) y0 y1 y2 y3 y4 y5 y6 y7 y8 y9 y10)) ∧ (∀ y0 y1 y2 y3 y4 y5 y6 y7 y8 y9 y10, LeO (insolvencyref33_SameDocket.l0 k y0 y1 y2 y3 y4 y5 y6 y7 y8 y9 y10) (insolvencyref33_SameDocket.l0 (k + 1) y0 y1 y2 y3 y4 y5 y6 y7 y8 y9 y10))
 | 0 => ⟨fun _ _ _ _ _ _ _ _ _ _ _ r h => by simp [insolvencyref33_SameDocket.j0] at h, fun _ _ _ _ _ _ _ _ _ _ _ r h => by simp [insolvencyref33_SameDocket.l0] at h⟩
 | k + 1 => by
  obtain ⟨ih0, ih1⟩ := insolvencyref33_SameDocket.mono_l k
  refine ⟨?_, ?_⟩
  ·intro y0 y1 y2 y3 y4 y5 y6 y7 y8 y9 y10
   unfold insolvencyref33_SameDocket.j0
   repeat' first
   | (with_reducible exact ih0 _ _ _ _ _ _ _ _ _ _ _)
   | (with_reducible exact ih1 _ _ _ _ _ _ _ _ _ _ _)
   | (with_reducible exact insolvencyref1_SameInts.mono _ _ _)
   | (with_reducible exact LeO.refl _)
   | (with_reducible exact LeO.none _)
   | (with_reducible refine LeO.ite ?_ ?_)
   | (with_reducible refine LeO.bind ?_ (fun _ => ?_))
   | exact ih0 _ _ _ _ _ _ _ _ _ _ _
   | exact ih1 _ _ _ _ _ _ _ _ _ _ _
   | exact insolvencyref1_SameInts.mono _ _ _
   | exact LeO.none _
   | refine LeO.ite ?_ ?_
   | refine LeO.bind ?_ (fun _ => ?_)
  ·intro y0 y1 y2 y3 y4 y5 y6 y7 y8 y9 y10
   unfold insolvencyref33_SameDocket.l0
   repeat' first
   | (with_reducible exact ih0 _ _ _ _ _ _ _ _ _ _ _)
   | (with_reducible exact ih1 _ _ _ _ _ _ _ _ _ _ _)
   | (with_reducible exact insolvencyref1_SameInts.mono _ _ _)
   | (with_reducible exact LeO.refl _)
   | (with_reducible exact LeO.none _)
   | (with_reducible refine LeO.ite ?_ ?_)
   | (with_reducible refine LeO.bind ?_ (fun _ => ?_))
   | exact ih0 _ _ _ _ _ _ _ _ _ _ _
   | exact ih1 _ _ _ _ _ _ _ _ _ _ _
   | exact insolvencyref1_SameInts.mono _ _ _
   | exact LeO.none _
   | refine LeO.ite ?_ ?_
   | refine LeO.bind ?_ (fun _ => ?_)
theorem insolvencyref33_SameDocket.mono : ∀ a0 a1 a2 a3 a4 a5 a6 a7 a8 a9 k, LeO (insolvencyref33_SameDocket.f k a0 a1 a2 a3 a4 a5 a6 a7 a8 a9) (insolvencyref33_SameDocket.f (k + 1) a0 a1 a2 a3 a4 a5 a6 a7 a8 a9) := by
 intro a0 a1 a2 a3 a4 a5 a6 a7 a8 a9 k
 obtain ⟨ih0, ih1⟩ := insolvencyref33_SameDocket.mono_l k
 unfold insolvencyref33_SameDocket.f
 repeat' first
   | (with_reducible exact ih0 _ _ _ _ _ _ _ _ _ _ _)
   | (with_reducible exact ih1 _ _ _ _ _ _ _ _ _ _ _)
   | (with_reducible exact insolvencyref1_SameInts.mono _ _ _)
   | (with_reducible exact LeO.refl _)
   | (with_reducible exact LeO.none _)
   | (with_reducible refine LeO.ite ?_ ?_)
   | (with_reducible refine LeO.bind ?_ (fun _ => ?_))
   | exact ih0 _ _ _ _ _ _ _ _ _ _ _
   | exact ih1 _ _ _ _ _ _ _ _ _ _ _
   | exact insolvencyref1_SameInts.mono _ _ _
   | exact LeO.none _
   | refine LeO.ite ?_ ?_
   | refine LeO.bind ?_ (fun _ => ?_)
set_option maxHeartbeats 8000000 in
set_option maxRecDepth 100000 in
theorem insolvencyref33_SameDocket.calls (k : Nat) (a0_0 : Int) (a0_1 : Int) (a0_2 : Int) (A0_3 : Option Addr) (c0_3 : Nat) (l0_3 : List Int) (A0_4 : Option Addr) (c0_4 : Nat) (l0_4 : List (S50)) (a1_0 : Int) (a1_1 : Int) (a1_2 : Int) (A1_3 : Option Addr) (c1_3 : Nat) (l1_3 : List Int) (A1_4 : Option Addr) (c1_4 : Nat) (l1_4 : List (S50)) (r : Bool) (w : World) (hr0_3 : Kd.C (Kd.int .i64) w A0_3 l0_3.length l0_3) (hc0_3 : l0_3.length ≤ c0_3) (hr0_4 : Kd.C k50 w A0_4 l0_4.length l0_4) (hc0_4 : l0_4.length ≤ c0_4) (hr1_3 : Kd.C (Kd.int .i64) w A1_3 l1_3.length l1_3) (hc1_3 : l1_3.length ≤ c1_3) (hr1_4 : Kd.C k50 w A1_4 l1_4.length l1_4) (hc1_4 : l1_4.length ≤ c1_4) (h : insolvencyref33_SameDocket.f k a0_0 a0_1 a0_2 l0_3 l0_4 a1_0 a1_1 a1_2 l1_3 l1_4 = some r) :
  Calls Try.prog 15 #[.agg #[.int .i64 a0_0, .int .i64 a0_1, .int .i64 a0_2, .slice A0_3 l0_3.length c0_3, .slice A0_4 l0_4.length c0_4], .agg #[.int .i64 a1_0, .int .i64 a1_1, .int .i64 a1_2, .slice A1_3 l1_3.length c1_3, .slice A1_4 l1_4.length c1_4]] w fun e w' => e = .returned (.bool r) ∧ Below w.heap.size w w' := by
 have hu30 := Try.underlying30
 have hu50 := Try.underlying50
 have HR0_3 := Aside0.mk hr0_3
 have HC0_3 := Aside0.mk hc0_3
 clear hr0_3 hc0_3
 have HR0_4 := Aside0.mk hr0_4
 have HC0_4 := Aside0.mk hc0_4
 clear hr0_4 hc0_4
 have HR1_3 := Aside0.mk hr1_3
 have HC1_3 := Aside0.mk hc1_3
 clear hr1_3 hc1_3
 have HR1_4 := Aside0.mk hr1_4
 have HC1_4 := Aside0.mk hc1_4
 clear hr1_4 hc1_4
 have HB := Aside0.mk (Below.refl w.heap.size w)
 have H : (if a0_0 = a1_0 then (if a0_1 = a1_1 then (if a0_2 = a1_2 then ((insolvencyref1_SameInts.f k l0_3 l1_3).bind fun t247 => (if t247 = true then (insolvencyref33_SameDocket.j0 k ((l0_4.length : Int) != (l1_4.length : Int)) a0_0 a0_1 a0_2 l0_3 l0_4 a1_0 a1_1 a1_2 l1_3 l1_4) else (insolvencyref33_SameDocket.j0 k true a0_0 a0_1 a0_2 l0_3 l0_4 a1_0 a1_1 a1_2 l1_3 l1_4))) else (insolvencyref33_SameDocket.j0 k true a0_0 a0_1 a0_2 l0_3 l0_4 a1_0 a1_1 a1_2 l1_3 l1_4)) else (insolvencyref33_SameDocket.j0 k true a0_0 a0_1 a0_2 l0_3 l0_4 a1_0 a1_1 a1_2 l1_3 l1_4)) else (insolvencyref33_SameDocket.j0 k true a0_0 a0_1 a0_2 l0_3 l0_4 a1_0 a1_1 a1_2 l1_3 l1_4)) = some r := h
 clear h
 have HC3 := Aside0.mk H
 clear H
 go_enter Try.func15, Try.ntmps15
 go_upto_region 1 with (first | ((with_reducible refine gate_dst (N := 2) rfl ?_); (try (refine gate_guard (by rfl) ?_; dsimp only)); refine box_event ?hg (N := 2) ?hd (cs := #[.int .i64 a0_0, .int .i64 a0_1, .int .i64 a0_2, .slice A0_3 l0_3.length c0_3, .slice A0_4 l0_4.length c0_4]) (t := 30) ?hr ?_; (case hd => rfl); (case hg => rfl); (case hr => first | (go_simp; done) | (go_simp; rfl)); intro gb245 hg w4 hbox hb; have n0_ := Aside0.mk (below_step (pB HB) hb); have n1_ := Aside0.mk (hbox); have n2_ := Aside0.mk ((by rw [hg]; exact (below_size (pB HB)) : w.heap.size ≤ gb245)); have n3_ := Aside0.mk ((by rw [hg]; exact (below_size (pB HB)) : w.heap.size ≤ gb245)); clear HB; have HB := n0_; have BK245 := n1_; have GW245 := n2_; have GE245 := n3_; clear n0_ n1_ n2_ n3_; clear hb hbox hg) | ((with_reducible refine gate_dst (N := 3) rfl ?_); (try (refine gate_guard (by rfl) ?_; dsimp only)); refine box_event ?hg (N := 3) ?hd (cs := #[.int .i64 a1_0, .int .i64 a1_1, .int .i64 a1_2, .slice A1_3 l1_3.length c1_3, .slice A1_4 l1_4.length c1_4]) (t := 30) ?hr ?_; (case hd => rfl); (case hg => rfl); (case hr => first | (go_simp; done) | (go_simp; rfl)); intro gb246 hg w5 hbox hb; have n0_ := bB BK245 hb; have n1_ := Aside0.mk (below_step (pB HB) hb); have n2_ := Aside0.mk (hbox); have n3_ := Aside0.mk ((by rw [hg]; exact (below_size (pB HB)) : w.heap.size ≤ gb246)); have n4_ := Aside0.mk ((by rw [hg]; exact (below_size (pB HB)) : w.heap.size ≤ gb246)); have n5_ := Aside0.mk ((by rw [hg]; exact Nat.ne_of_lt (blk_lt (g := gb245) (o := .cells #[.int .i64 a0_0, .int .i64 a0_1, .int .i64 a0_2, .slice A0_3 l0_3.length c0_3, .slice A0_4 l0_4.length c0_4] 30 (0, 0)) (by (with_reducible repeat (first | refine blk_drewN ?_ _ | refine blk_drew ?_ | refine blk_alloc ?_ _)); exact BK245.out)) : gb245 ≠ gb246)); have n6_ := Aside0.mk ((by rw [hg]; exact Nat.ne_of_gt (blk_lt (g := gb245) (o := .cells #[.int .i64 a0_0, .int .i64 a0_1, .int .i64 a0_2, .slice A0_3 l0_3.length c0_3, .slice A0_4 l0_4.length c0_4] 30 (0, 0)) (by (with_reducible repeat (first | refine blk_drewN ?_ _ | refine blk_drew ?_ | refine blk_alloc ?_ _)); exact BK245.out)) : gb246 ≠ gb245)); clear BK245; clear HB; have BK245 := n0_; have HB := n1_; have BK246 := n2_; have GW246 := n3_; have GE246 := n4_; have NB245_246 := n5_; have NB246_245 := n6_; clear n0_ n1_ n2_ n3_ n4_ n5_ n6_; clear hb hbox hg))
 repeat (go_quiet (first | ((with_reducible refine gate_dst (N := 2) rfl ?_); (try (refine gate_guard (by rfl) ?_; dsimp only)); refine box_event ?hg (N := 2) ?hd (cs := #[.int .i64 a0_0, .int .i64 a0_1, .int .i64 a0_2, .slice A0_3 l0_3.length c0_3, .slice A0_4 l0_4.length c0_4]) (t := 30) ?hr ?_; (case hd => rfl); (case hg => rfl); (case hr => first | (go_simp; done) | (go_simp; rfl)); intro gb245 hg w4 hbox hb; have n0_ := Aside0.mk (below_step (pB HB) hb); have n1_ := Aside0.mk (hbox); have n2_ := Aside0.mk ((by rw [hg]; exact (below_size (pB HB)) : w.heap.size ≤ gb245)); have n3_ := Aside0.mk ((by rw [hg]; exact (below_size (pB HB)) : w.heap.size ≤ gb245)); clear HB; have HB := n0_; have BK245 := n1_; have GW245 := n2_; have GE245 := n3_; clear n0_ n1_ n2_ n3_; clear hb hbox hg) | ((with_reducible refine gate_dst (N := 3) rfl ?_); (try (refine gate_guard (by rfl) ?_; dsimp only)); refine box_event ?hg (N := 3) ?hd (cs := #[.int .i64 a1_0, .int .i64 a1_1, .int .i64 a1_2, .slice A1_3 l1_3.length c1_3, .slice A1_4 l1_4.length c1_4]) (t := 30) ?hr ?_; (case hd => rfl); (case hg => rfl); (case hr => first | (go_simp; done) | (go_simp; rfl)); intro gb246 hg w5 hbox hb; have n0_ := bB BK245 hb; have n1_ := Aside0.mk (below_step (pB HB) hb); have n2_ := Aside0.mk (hbox); have n3_ := Aside0.mk ((by rw [hg]; exact (below_size (pB HB)) : w.heap.size ≤ gb246)); have n4_ := Aside0.mk ((by rw [hg]; exact (below_size (pB HB)) : w.heap.size ≤ gb246)); have n5_ := Aside0.mk ((by rw [hg]; exact Nat.ne_of_lt (blk_lt (g := gb245) (o := .cells #[.int .i64 a0_0, .int .i64 a0_1, .int .i64 a0_2, .slice A0_3 l0_3.length c0_3, .slice A0_4 l0_4.length c0_4] 30 (0, 0)) (by (with_reducible repeat (first | refine blk_drewN ?_ _ | refine blk_drew ?_ | refine blk_alloc ?_ _)); exact BK245.out)) : gb245 ≠ gb246)); have n6_ := Aside0.mk ((by rw [hg]; exact Nat.ne_of_gt (blk_lt (g := gb245) (o := .cells #[.int .i64 a0_0, .int .i64 a0_1, .int .i64 a0_2, .slice A0_3 l0_3.length c0_3, .slice A0_4 l0_4.length c0_4] 30 (0, 0)) (by (with_reducible repeat (first | refine blk_drewN ?_ _ | refine blk_drew ?_ | refine blk_alloc ?_ _)); exact BK245.out)) : gb246 ≠ gb245)); clear BK245; clear HB; have BK245 := n0_; have HB := n1_; have BK246 := n2_; have GW246 := n3_; have GE246 := n4_; have NB245_246 := n5_; have NB246_245 := n6_; clear n0_ n1_ n2_ n3_ n4_ n5_ n6_; clear hb hbox hg)); go_upto_region 1 with (first | ((with_reducible refine gate_dst (N := 2) rfl ?_); (try (refine gate_guard (by rfl) ?_; dsimp only)); refine box_event ?hg (N := 2) ?hd (cs := #[.int .i64 a0_0, .int .i64 a0_1, .int .i64 a0_2, .slice A0_3 l0_3.length c0_3, .slice A0_4 l0_4.length c0_4]) (t := 30) ?hr ?_; (case hd => rfl); (case hg => rfl); (case hr => first | (go_simp; done) | (go_simp; rfl)); intro gb245 hg w4 hbox hb; have n0_ := Aside0.mk (below_step (pB HB) hb); have n1_ := Aside0.mk (hbox); have n2_ := Aside0.mk ((by rw [hg]; exact (below_size (pB HB)) : w.heap.size ≤ gb245)); have n3_ := Aside0.mk ((by rw [hg]; exact (below_size (pB HB)) : w.heap.size ≤ gb245)); clear HB; have HB := n0_; have BK245 := n1_; have GW245 := n2_; have GE245 := n3_; clear n0_ n1_ n2_ n3_; clear hb hbox hg) | ((with_reducible refine gate_dst (N := 3) rfl ?_); (try (refine gate_guard (by rfl) ?_; dsimp only)); refine box_event ?hg (N := 3) ?hd (cs := #[.int .i64 a1_0, .int .i64 a1_1, .int .i64 a1_2, .slice A1_3 l1_3.length c1_3, .slice A1_4 l1_4.length c1_4]) (t := 30) ?hr ?_; (case hd => rfl); (case hg => rfl); (case hr => first | (go_simp; done) | (go_simp; rfl)); intro gb246 hg w5 hbox hb; have n0_ := bB BK245 hb; have n1_ := Aside0.mk (below_step (pB HB) hb); have n2_ := Aside0.mk (hbox); have n3_ := Aside0.mk ((by rw [hg]; exact (below_size (pB HB)) : w.heap.size ≤ gb246)); have n4_ := Aside0.mk ((by rw [hg]; exact (below_size (pB HB)) : w.heap.size ≤ gb246)); have n5_ := Aside0.mk ((by rw [hg]; exact Nat.ne_of_lt (blk_lt (g := gb245) (o := .cells #[.int .i64 a0_0, .int .i64 a0_1, .int .i64 a0_2, .slice A0_3 l0_3.length c0_3, .slice A0_4 l0_4.length c0_4] 30 (0, 0)) (by (with_reducible repeat (first | refine blk_drewN ?_ _ | refine blk_drew ?_ | refine blk_alloc ?_ _)); exact BK245.out)) : gb245 ≠ gb246)); have n6_ := Aside0.mk ((by rw [hg]; exact Nat.ne_of_gt (blk_lt (g := gb245) (o := .cells #[.int .i64 a0_0, .int .i64 a0_1, .int .i64 a0_2, .slice A0_3 l0_3.length c0_3, .slice A0_4 l0_4.length c0_4] 30 (0, 0)) (by (with_reducible repeat (first | refine blk_drewN ?_ _ | refine blk_drew ?_ | refine blk_alloc ?_ _)); exact BK245.out)) : gb246 ≠ gb245)); clear BK245; clear HB; have BK245 := n0_; have HB := n1_; have BK246 := n2_; have GW246 := n3_; have GE246 := n4_; have NB245_246 := n5_; have NB246_245 := n6_; clear n0_ n1_ n2_ n3_ n4_ n5_ n6_; clear hb hbox hg)))
 (try simp only [Act.put, List.setIfInBounds_toArray, List.set_cons_zero, List.set_cons_succ])
 go_cut [47] (fun v47 wc => ∃ (kq : Nat) (x47_2 : Bool), v47 = .bool x47_2 ∧ Aside0 (insolvencyref33_SameDocket.j0 kq x47_2 a0_0 a0_1 a0_2 l0_3 l0_4 a1_0 a1_1 a1_2 l1_3 l1_4 = some r) ∧ Aside0 (kq ≤ k) ∧ Aside0 (wc.heap[gb245]? = some (.cells #[.int .i64 a0_0, .int .i64 a0_1, .int .i64 a0_2, (.slice A0_3 l0_3.length c0_3), (.slice A0_4 l0_4.length c0_4)] 30 (0, 0))) ∧ Aside0 (wc.heap[gb246]? = some (.cells #[.int .i64 a1_0, .int .i64 a1_1, .int .i64 a1_2, (.slice A1_3 l1_3.length c1_3), (.slice A1_4 l1_4.length c1_4)] 30 (0, 0))) ∧ Aside0 (Below w.heap.size w wc))
 case first =>
  have H := HC3.out
  clear HC3
  by_cases c6 : a0_0 = a1_0
  ·rw [if_pos c6] at H
   have c6b0 : (a0_0 == a1_0) = true := beq_iff_eq.mpr c6
   have c6b1 : (a0_0 != a1_0) = false := bne_eq_false_iff_eq.mpr c6
   clear c6
   (first | rw [c6b0] | (simp only [i64_w, i32_w]; rw [c6b0]) | skip)
   by_cases c7 : a0_1 = a1_1
   ·rw [if_pos c7] at H
    have c7b0 : (a0_1 == a1_1) = true := beq_iff_eq.mpr c7
    have c7b1 : (a0_1 != a1_1) = false := bne_eq_false_iff_eq.mpr c7
    clear c7
    by_cases c8 : a0_2 = a1_2
    ·rw [if_pos c8] at H
     have c8b0 : (a0_2 == a1_2) = true := beq_iff_eq.mpr c8
     have c8b1 : (a0_2 != a1_2) = false := bne_eq_false_iff_eq.mpr c8
     clear c8
     replace H := Option.bind_eq_some_iff.mp H
     obtain ⟨t247, A90, H⟩ := H
     replace H : (if t247 = true then (insolvencyref33_SameDocket.j0 k ((l0_4.length : Int) != (l1_4.length : Int)) a0_0 a0_1 a0_2 l0_3 l0_4 a1_0 a1_1 a1_2 l1_3 l1_4) else (insolvencyref33_SameDocket.j0 k true a0_0 a0_1 a0_2 l0_3 l0_4 a1_0 a1_1 a1_2 l1_3 l1_4)) = some r := H
     have A9 := Aside0.mk A90
     clear A90
     by_cases c10 : t247 = true
     ·subst c10
      have H1 : (insolvencyref33_SameDocket.j0 k ((l0_4.length : Int) != (l1_4.length : Int)) a0_0 a0_1 a0_2 l0_3 l0_4 a1_0 a1_1 a1_2 l1_3 l1_4) = some r := by rw [if_pos rfl] at H; exact H
      clear H
      have H := H1
      clear H1
      have H' := Aside0.mk H
      clear H
      have hnb11 := NB245_246.out
      have hnc11 := NB246_245.out
      obtain ⟨hcz12_0, hcz12_1, hcz12_2, hcz12_3, hcz12_4⟩ := cells5 BK245
      obtain ⟨hfz12_0, hfz12_1, hfz12_2, hfz12_3, hfz12_4⟩ := frz5 BK245
      obtain ⟨hcz13_0, hcz13_1, hcz13_2, hcz13_3, hcz13_4⟩ := cells5 BK246
      obtain ⟨hfz13_0, hfz13_1, hfz13_2, hfz13_3, hfz13_4⟩ := frz5 BK246
      go_wp2_with (first | (go_at_call 33; (with_reducible refine (insolvencyref1_SameInts.calls k _ _ l0_3 _ _ l1_3 true _ ?side1 ?side2 ?side3 ?side4 A9.out).mono ?_); (case side1 => repeat (first | exact (Kd.C_below HR0_3.out HB.out) | (with_reducible refine Kd.C_alloc ?_ _) | (with_reducible refine Kd.C_drewN ?_ _) | (with_reducible refine Kd.C_drew ?_))); (case side2 => exact HC0_3.out); (case side3 => repeat (first | exact (Kd.C_below HR1_3.out HB.out) | (with_reducible refine Kd.C_alloc ?_ _) | (with_reducible refine Kd.C_drewN ?_ _) | (with_reducible refine Kd.C_drew ?_))); (case side4 => exact HC1_3.out); rintro e w' ⟨rfl, ⟨nd, rfl⟩⟩; (try first | exact ⟨rfl, _, World.drewN_drewN _ _ _⟩ | exact ⟨rfl, _, Eq.trans (World.drewN_drewN _ _ _) (congrArg (World.drewN _) (Nat.add_assoc _ _ _))⟩)))
      repeat (go_quiet (first | (go_at_call 33; (with_reducible refine (insolvencyref1_SameInts.calls k _ _ l0_3 _ _ l1_3 true _ ?side1 ?side2 ?side3 ?side4 A9.out).mono ?_); (case side1 => repeat (first | exact (Kd.C_below HR0_3.out HB.out) | (with_reducible refine Kd.C_alloc ?_ _) | (with_reducible refine Kd.C_drewN ?_ _) | (with_reducible refine Kd.C_drew ?_))); (case side2 => exact HC0_3.out); (case side3 => repeat (first | exact (Kd.C_below HR1_3.out HB.out) | (with_reducible refine Kd.C_alloc ?_ _) | (with_reducible refine Kd.C_drewN ?_ _) | (with_reducible refine Kd.C_drew ?_))); (case side4 => exact HC1_3.out); rintro e w' ⟨rfl, ⟨nd, rfl⟩⟩; (try first | exact ⟨rfl, _, World.drewN_drewN _ _ _⟩ | exact ⟨rfl, _, Eq.trans (World.drewN_drewN _ _ _) (congrArg (World.drewN _) (Nat.add_assoc _ _ _))⟩))); try go_wp2_with (first | (go_at_call 33; (with_reducible refine (insolvencyref1_SameInts.calls k _ _ l0_3 _ _ l1_3 true _ ?side1 ?side2 ?side3 ?side4 A9.out).mono ?_); (case side1 => repeat (first | exact (Kd.C_below HR0_3.out HB.out) | (with_reducible refine Kd.C_alloc ?_ _) | (with_reducible refine Kd.C_drewN ?_ _) | (with_reducible refine Kd.C_drew ?_))); (case side2 => exact HC0_3.out); (case side3 => repeat (first | exact (Kd.C_below HR1_3.out HB.out) | (with_reducible refine Kd.C_alloc ?_ _) | (with_reducible refine Kd.C_drewN ?_ _) | (with_reducible refine Kd.C_drew ?_))); (case side4 => exact HC1_3.out); rintro e w' ⟨rfl, ⟨nd, rfl⟩⟩; (try first | exact ⟨rfl, _, World.drewN_drewN _ _ _⟩ | exact ⟨rfl, _, Eq.trans (World.drewN_drewN _ _ _) (congrArg (World.drewN _) (Nat.add_assoc _ _ _))⟩))))
      go_meet
      case rel => exact ⟨_, (((l0_4.length : Int) != (l1_4.length : Int))), (by first | rfl | (simp; done) | (simp [*]; done)), H', ⟨by first | omega | exact Nat.le_refl _⟩, ⟨by (with_reducible repeat (first | refine blk_drewN ?_ _ | refine blk_drew ?_ | refine blk_alloc ?_ _)); exact BK245.out⟩, ⟨by (with_reducible repeat (first | refine blk_drewN ?_ _ | refine blk_drew ?_ | refine blk_alloc ?_ _)); exact BK246.out⟩, ⟨pB HB⟩⟩
     ·replace c10 := Bool.eq_false_iff.mpr c10
      subst c10
      have H1 : (insolvencyref33_SameDocket.j0 k true a0_0 a0_1 a0_2 l0_3 l0_4 a1_0 a1_1 a1_2 l1_3 l1_4) = some r := by rw [if_neg (show ¬ (false = true) by decide)] at H; exact H
      clear H
      have H := H1
      clear H1
      have H' := Aside0.mk H
      clear H
      have hnb14 := NB245_246.out
      have hnc14 := NB246_245.out
      obtain ⟨hcz15_0, hcz15_1, hcz15_2, hcz15_3, hcz15_4⟩ := cells5 BK245
      obtain ⟨hfz15_0, hfz15_1, hfz15_2, hfz15_3, hfz15_4⟩ := frz5 BK245
      obtain ⟨hcz16_0, hcz16_1, hcz16_2, hcz16_3, hcz16_4⟩ := cells5 BK246
      obtain ⟨hfz16_0, hfz16_1, hfz16_2, hfz16_3, hfz16_4⟩ := frz5 BK246
      go_wp2_with (first | (go_at_call 33; (with_reducible refine (insolvencyref1_SameInts.calls k _ _ l0_3 _ _ l1_3 false _ ?side1 ?side2 ?side3 ?side4 A9.out).mono ?_); (case side1 => repeat (first | exact (Kd.C_below HR0_3.out HB.out) | (with_reducible refine Kd.C_alloc ?_ _) | (with_reducible refine Kd.C_drewN ?_ _) | (with_reducible refine Kd.C_drew ?_))); (case side2 => exact HC0_3.out); (case side3 => repeat (first | exact (Kd.C_below HR1_3.out HB.out) | (with_reducible refine Kd.C_alloc ?_ _) | (with_reducible refine Kd.C_drewN ?_ _) | (with_reducible refine Kd.C_drew ?_))); (case side4 => exact HC1_3.out); rintro e w' ⟨rfl, ⟨nd, rfl⟩⟩; (try first | exact ⟨rfl, _, World.drewN_drewN _ _ _⟩ | exact ⟨rfl, _, Eq.trans (World.drewN_drewN _ _ _) (congrArg (World.drewN _) (Nat.add_assoc _ _ _))⟩)))
      repeat (go_quiet (first | (go_at_call 33; (with_reducible refine (insolvencyref1_SameInts.calls k _ _ l0_3 _ _ l1_3 false _ ?side1 ?side2 ?side3 ?side4 A9.out).mono ?_); (case side1 => repeat (first | exact (Kd.C_below HR0_3.out HB.out) | (with_reducible refine Kd.C_alloc ?_ _) | (with_reducible refine Kd.C_drewN ?_ _) | (with_reducible refine Kd.C_drew ?_))); (case side2 => exact HC0_3.out); (case side3 => repeat (first | exact (Kd.C_below HR1_3.out HB.out) | (with_reducible refine Kd.C_alloc ?_ _) | (with_reducible refine Kd.C_drewN ?_ _) | (with_reducible refine Kd.C_drew ?_))); (case side4 => exact HC1_3.out); rintro e w' ⟨rfl, ⟨nd, rfl⟩⟩; (try first | exact ⟨rfl, _, World.drewN_drewN _ _ _⟩ | exact ⟨rfl, _, Eq.trans (World.drewN_drewN _ _ _) (congrArg (World.drewN _) (Nat.add_assoc _ _ _))⟩))); try go_wp2_with (first | (go_at_call 33; (with_reducible refine (insolvencyref1_SameInts.calls k _ _ l0_3 _ _ l1_3 false _ ?side1 ?side2 ?side3 ?side4 A9.out).mono ?_); (case side1 => repeat (first | exact (Kd.C_below HR0_3.out HB.out) | (with_reducible refine Kd.C_alloc ?_ _) | (with_reducible refine Kd.C_drewN ?_ _) | (with_reducible refine Kd.C_drew ?_))); (case side2 => exact HC0_3.out); (case side3 => repeat (first | exact (Kd.C_below HR1_3.out HB.out) | (with_reducible refine Kd.C_alloc ?_ _) | (with_reducible refine Kd.C_drewN ?_ _) | (with_reducible refine Kd.C_drew ?_))); (case side4 => exact HC1_3.out); rintro e w' ⟨rfl, ⟨nd, rfl⟩⟩; (try first | exact ⟨rfl, _, World.drewN_drewN _ _ _⟩ | exact ⟨rfl, _, Eq.trans (World.drewN_drewN _ _ _) (congrArg (World.drewN _) (Nat.add_assoc _ _ _))⟩))))
      go_meet
      case rel => exact ⟨_, (true), (by first | rfl | (simp; done) | (simp [*]; done)), H', ⟨by first | omega | exact Nat.le_refl _⟩, ⟨by (with_reducible repeat (first | refine blk_drewN ?_ _ | refine blk_drew ?_ | refine blk_alloc ?_ _)); exact BK245.out⟩, ⟨by (with_reducible repeat (first | refine blk_drewN ?_ _ | refine blk_drew ?_ | refine blk_alloc ?_ _)); exact BK246.out⟩, ⟨pB HB⟩⟩
    ·rw [if_neg c8] at H
     have c8b0 : (a0_2 == a1_2) = false := beq_eq_false_iff_ne.mpr c8
     have c8b1 : (a0_2 != a1_2) = true := bne_iff_ne.mpr c8
     have H' := Aside0.mk H
     clear H
     have hnb17 := NB245_246.out
     have hnc17 := NB246_245.out
     obtain ⟨hcz18_0, hcz18_1, hcz18_2, hcz18_3, hcz18_4⟩ := cells5 BK245
     obtain ⟨hfz18_0, hfz18_1, hfz18_2, hfz18_3, hfz18_4⟩ := frz5 BK245
     obtain ⟨hcz19_0, hcz19_1, hcz19_2, hcz19_3, hcz19_4⟩ := cells5 BK246
     obtain ⟨hfz19_0, hfz19_1, hfz19_2, hfz19_3, hfz19_4⟩ := frz5 BK246
     go_wp2
     repeat (go_quiet (fail); try go_wp2)
     go_meet
     case rel => exact ⟨_, (true), (by first | rfl | (simp; done) | (simp [*]; done)), H', ⟨by first | omega | exact Nat.le_refl _⟩, ⟨by (with_reducible repeat (first | refine blk_drewN ?_ _ | refine blk_drew ?_ | refine blk_alloc ?_ _)); exact BK245.out⟩, ⟨by (with_reducible repeat (first | refine blk_drewN ?_ _ | refine blk_drew ?_ | refine blk_alloc ?_ _)); exact BK246.out⟩, ⟨pB HB⟩⟩
   ·rw [if_neg c7] at H
    have c7b0 : (a0_1 == a1_1) = false := beq_eq_false_iff_ne.mpr c7
    have c7b1 : (a0_1 != a1_1) = true := bne_iff_ne.mpr c7
    have H' := Aside0.mk H
    clear H
    have hnb20 := NB245_246.out
    have hnc20 := NB246_245.out
    obtain ⟨hcz21_0, hcz21_1, hcz21_2, hcz21_3, hcz21_4⟩ := cells5 BK245
    obtain ⟨hfz21_0, hfz21_1, hfz21_2, hfz21_3, hfz21_4⟩ := frz5 BK245
    obtain ⟨hcz22_0, hcz22_1, hcz22_2, hcz22_3, hcz22_4⟩ := cells5 BK246
    obtain ⟨hfz22_0, hfz22_1, hfz22_2, hfz22_3, hfz22_4⟩ := frz5 BK246
    go_wp2
    repeat (go_quiet (fail); try go_wp2)
    go_meet
    case rel => exact ⟨_, (true), (by first | rfl | (simp; done) | (simp [*]; done)), H', ⟨by first | omega | exact Nat.le_refl _⟩, ⟨by (with_reducible repeat (first | refine blk_drewN ?_ _ | refine blk_drew ?_ | refine blk_alloc ?_ _)); exact BK245.out⟩, ⟨by (with_reducible repeat (first | refine blk_drewN ?_ _ | refine blk_drew ?_ | refine blk_alloc ?_ _)); exact BK246.out⟩, ⟨pB HB⟩⟩
  ·rw [if_neg c6] at H
   have c6b0 : (a0_0 == a1_0) = false := beq_eq_false_iff_ne.mpr c6
   have c6b1 : (a0_0 != a1_0) = true := bne_iff_ne.mpr c6
   (first | rw [c6b0] | (simp only [i64_w, i32_w]; rw [c6b0]) | skip)
   have H' := Aside0.mk H
   clear H
   have hnb23 := NB245_246.out
   have hnc23 := NB246_245.out
   obtain ⟨hcz24_0, hcz24_1, hcz24_2, hcz24_3, hcz24_4⟩ := cells5 BK245
   obtain ⟨hfz24_0, hfz24_1, hfz24_2, hfz24_3, hfz24_4⟩ := frz5 BK245
   obtain ⟨hcz25_0, hcz25_1, hcz25_2, hcz25_3, hcz25_4⟩ := cells5 BK246
   obtain ⟨hfz25_0, hfz25_1, hfz25_2, hfz25_3, hfz25_4⟩ := frz5 BK246
   go_wp2
   repeat (go_quiet (fail); try go_wp2)
   go_meet
   case rel => exact ⟨_, (true), (by first | rfl | (simp; done) | (simp [*]; done)), H', ⟨by first | omega | exact Nat.le_refl _⟩, ⟨by (with_reducible repeat (first | refine blk_drewN ?_ _ | refine blk_drew ?_ | refine blk_alloc ?_ _)); exact BK245.out⟩, ⟨by (with_reducible repeat (first | refine blk_drewN ?_ _ | refine blk_drew ?_ | refine blk_alloc ?_ _)); exact BK246.out⟩, ⟨pB HB⟩⟩
 case rest =>
  clear HC3
  try clear c1
  try clear c2
  try clear p2
  try clear c6
  try clear c6b0
  try clear c6b1
  try clear c7
  try clear c7b0
  try clear c7b1
  try clear c8
  try clear c8b0
  try clear c8b1
  try clear c10
  try clear c11
  try clear c14
  try clear c15
  try clear c17
  try clear c20
  try clear c23
  obtain ⟨kq, x47_2, rfl, HA, HJ2, BK245, BK246, HB⟩ := hcut
  cases kq with
  | zero => exact absurd HA.out (by simp [insolvencyref33_SameDocket.j0])
  | succ kj2 =>
   have H := HA.out
   clear HA
   simp only [insolvencyref33_SameDocket.j0] at H
   by_cases c26 : x47_2 = true
   ·subst c26
    have H1 : (none) = some r := by rw [if_pos rfl] at H; exact H
    clear H
    have H := H1
    clear H1
    exact absurd H (by simp)
   ·replace c26 := Bool.eq_false_iff.mpr c26
    subst c26
    have H1 : (insolvencyref33_SameDocket.l0 kj2 0 a0_0 a0_1 a0_2 l0_3 l0_4 a1_0 a1_1 a1_2 l1_3 l1_4) = some r := by rw [if_neg (show ¬ (false = true) by decide)] at H; exact H
    clear H
    have H := H1
    clear H1
    have H' := Aside0.mk H
    clear H
    go_wp2
    repeat (go_quiet (fail); try go_wp2)
    go_loopg [5] kj2 (fun kq v5 w' => ∃ (x5_2 : Int), v5 = .int .i64 x5_2 ∧ Aside0 (insolvencyref33_SameDocket.l0 kq x5_2 a0_0 a0_1 a0_2 l0_3 l0_4 a1_0 a1_1 a1_2 l1_3 l1_4 = some r) ∧ Aside0 (kq ≤ kj2) ∧ Aside0 (w'.heap[gb245]? = some (.cells #[.int .i64 a0_0, .int .i64 a0_1, .int .i64 a0_2, (.slice A0_3 l0_3.length c0_3), (.slice A0_4 l0_4.length c0_4)] 30 (0, 0))) ∧ Aside0 (w'.heap[gb246]? = some (.cells #[.int .i64 a1_0, .int .i64 a1_1, .int .i64 a1_2, (.slice A1_3 l1_3.length c1_3), (.slice A1_4 l1_4.length c1_4)] 30 (0, 0))) ∧ Aside0 (Below w.heap.size w w'))
    case atStart => exact ⟨(0), (by first | rfl | (simp; done) | (simp [*]; done)), H', ⟨Nat.le_refl _⟩, ⟨by (with_reducible repeat (first | refine blk_drewN ?_ _ | refine blk_drew ?_ | refine blk_alloc ?_ _)); exact BK245.out⟩, ⟨by (with_reducible repeat (first | refine blk_drewN ?_ _ | refine blk_drew ?_ | refine blk_alloc ?_ _)); exact BK246.out⟩, ⟨pB HB⟩⟩
    case round =>
     clear H'
     try clear c1
     try clear c2
     try clear p2
     try clear c6
     try clear c6b0
     try clear c6b1
     try clear c7
     try clear c7b0
     try clear c7b1
     try clear c8
     try clear c8b0
     try clear c8b1
     try clear c10
     try clear c11
     try clear c14
     try clear c15
     try clear c17
     try clear c20
     try clear c23
     try clear c26
     try clear p2
     obtain ⟨x5_2, rfl, HA, HK2, BK245, BK246, HB⟩ := hrel
     cases gk with
     | zero => exact absurd HA.out (by simp [insolvencyref33_SameDocket.l0])
     | succ k2 =>
      have H := HA.out
      clear HA
      simp only [insolvencyref33_SameDocket.l0] at H
      by_cases c27 : x5_2 < (l0_4.length : Int)
      ·rw [if_pos c27] at H
       have c27b0 : decide (x5_2 < (l0_4.length : Int)) = true := decide_eq_true c27
       clear c27
       by_cases c28 : 0 ≤ x5_2
       ·rw [if_pos c28] at H
        have c28b0 : decide (0 ≤ x5_2) = true := decide_eq_true c28
        clear c28
        by_cases c29 : x5_2 < (l1_4.length : Int)
        ·rw [if_pos c29] at H
         have c29b0 : decide (x5_2 < (l1_4.length : Int)) = true := decide_eq_true c29
         clear c29
         by_cases c30 : (!(((rd_T50 l0_4 x5_2).f0) == ((rd_T50 l1_4 x5_2).f0)) || (!(((rd_T50 l0_4 x5_2).f1) == ((rd_T50 l1_4 x5_2).f1)) || (!(((rd_T50 l0_4 x5_2).f2) == ((rd_T50 l1_4 x5_2).f2)) || (!(((rd_T50 l0_4 x5_2).f3) == ((rd_T50 l1_4 x5_2).f3)) || (!(((rd_T50 l0_4 x5_2).f4) == ((rd_T50 l1_4 x5_2).f4))))))) = true
         ·rw [if_pos c30] at H
          exact absurd H (by simp)
         ·rw [if_neg c30] at H
          have c30b0 : (!(((rd_T50 l0_4 x5_2).f0) == ((rd_T50 l1_4 x5_2).f0)) || (!(((rd_T50 l0_4 x5_2).f1) == ((rd_T50 l1_4 x5_2).f1)) || (!(((rd_T50 l0_4 x5_2).f2) == ((rd_T50 l1_4 x5_2).f2)) || (!(((rd_T50 l0_4 x5_2).f3) == ((rd_T50 l1_4 x5_2).f3)) || (!(((rd_T50 l0_4 x5_2).f4) == ((rd_T50 l1_4 x5_2).f4))))))) = false := by simpa using c30
          clear c30
          have H' := Aside0.mk H
          clear H
          have hnb31 := NB245_246.out
          have hnc31 := NB246_245.out
          obtain ⟨hcz32_0, hcz32_1, hcz32_2, hcz32_3, hcz32_4⟩ := cells5 BK245
          obtain ⟨hfz32_0, hfz32_1, hfz32_2, hfz32_3, hfz32_4⟩ := frz5 BK245
          have p248 : 0 ≤ (x5_2 : Int) := of_decide_eq_true (by first | (with_reducible assumption) | assumption)
          have q248 : x5_2 < (l0_4.length : Int) := of_decide_eq_true (by first | (with_reducible assumption) | assumption)
          obtain ⟨ad248, e248, hx248_0, hx248_1, hx248_2, hx248_3, hx248_4⟩ := at_T50 HR0_4.out x5_2 p248 q248
          cases e248
          replace hx248_0 := (HB.out.cell (World.block_lt_of_cell? w _ hx248_0)).trans hx248_0
          replace hx248_1 := (HB.out.cell (World.block_lt_of_cell? w _ hx248_1)).trans hx248_1
          replace hx248_2 := (HB.out.cell (World.block_lt_of_cell? w _ hx248_2)).trans hx248_2
          replace hx248_3 := (HB.out.cell (World.block_lt_of_cell? w _ hx248_3)).trans hx248_3
          replace hx248_4 := (HB.out.cell (World.block_lt_of_cell? w _ hx248_4)).trans hx248_4
          replace p248 := eq_true p248
          replace q248 := eq_true q248
          obtain ⟨hcz33_0, hcz33_1, hcz33_2, hcz33_3, hcz33_4⟩ := cells5 BK246
          obtain ⟨hfz33_0, hfz33_1, hfz33_2, hfz33_3, hfz33_4⟩ := frz5 BK246
          have p249 : 0 ≤ (x5_2 : Int) := of_decide_eq_true (by first | (with_reducible assumption) | assumption)
          have q249 : x5_2 < (l1_4.length : Int) := of_decide_eq_true (by first | (with_reducible assumption) | assumption)
          obtain ⟨ad249, e249, hx249_0, hx249_1, hx249_2, hx249_3, hx249_4⟩ := at_T50 HR1_4.out x5_2 p249 q249
          cases e249
          replace hx249_0 := (HB.out.cell (World.block_lt_of_cell? w _ hx249_0)).trans hx249_0
          replace hx249_1 := (HB.out.cell (World.block_lt_of_cell? w _ hx249_1)).trans hx249_1
          replace hx249_2 := (HB.out.cell (World.block_lt_of_cell? w _ hx249_2)).trans hx249_2
          replace hx249_3 := (HB.out.cell (World.block_lt_of_cell? w _ hx249_3)).trans hx249_3
          replace hx249_4 := (HB.out.cell (World.block_lt_of_cell? w _ hx249_4)).trans hx249_4
          replace p249 := eq_true p249
          replace q249 := eq_true q249
          go_wp2
          repeat (go_quiet (fail); try go_wp2)
          go_roundg k2
          case measure => have := HJ2.out; have := HK2.out; omega
          case rel => exact ⟨(wrap64 (x5_2 + 1)), (by first | rfl | (simp; done) | (simp [*]; done)), H', ⟨by have := HJ2.out; have := HK2.out; omega⟩, ⟨by (with_reducible repeat (first | refine blk_drewN ?_ _ | refine blk_drew ?_ | refine blk_alloc ?_ _)); exact BK245.out⟩, ⟨by (with_reducible repeat (first | refine blk_drewN ?_ _ | refine blk_drew ?_ | refine blk_alloc ?_ _)); exact BK246.out⟩, ⟨pB HB⟩⟩
        ·rw [if_neg c29] at H
         exact absurd H (by simp)
       ·rw [if_neg c28] at H
        exact absurd H (by simp)
      ·rw [if_neg c27] at H
       have c27b0 : decide (x5_2 < (l0_4.length : Int)) = false := decide_eq_false c27
       clear c27
       obtain rfl := Option.some.inj H
       have hnb34 := NB245_246.out
       have hnc34 := NB246_245.out
       obtain ⟨hcz35_0, hcz35_1, hcz35_2, hcz35_3, hcz35_4⟩ := cells5 BK245
       obtain ⟨hfz35_0, hfz35_1, hfz35_2, hfz35_3, hfz35_4⟩ := frz5 BK245
       go_wp2
       repeat (go_quiet (fail); try go_wp2)
       go_ret
       exact ⟨by first | rfl | (simp [errW_none, errW_some] <;> rfl) | (simp [*, errW_none, errW_some] <;> rfl), pB HB⟩

end Go.Proofs.Ytpfiecjacpbhkaa.D

/- What the Go functions named below come to, each told as_ a Lean function ('.f'), with the proof ('.calls'): no condition beyond those that each theorem states. Written by a program of this session's over the translation. -/
namespace Go.Proofs.Ytpfiecjacpbhkaa.D
open Go.RowKit Go.Proofs.YtpfiecjacpbhkaaW.PrintWords Go.Proofs.YtpfiecjacpbhkaaW.PrintLast Go.Proofs.YtpfiecjacpbhkaaW.PrintMore
attribute [local go_sem] max2_int min2_int max_two min_two max_three min_three max_four min_four   -- for this text's walks alone
set_option linter.unusedVariables false
set_option linter.unusedSimpArgs false

/-! ### insolvencyref33_day: function 44 -/
def insolvencyref33_day.f (a0 : Int) : Option (Bool) := if a0 ≥ 0 then (some (decide (a0 ≤ 1048576))) else (some false)
set_option maxHeartbeats 8000000 in
set_option maxRecDepth 100000 in
theorem insolvencyref33_day.calls (a0 : Int) (r : Bool) (w : World) (h : insolvencyref33_day.f a0 = some r) :
  Calls Try.prog 44 #[.int .i64 a0] w fun e w' => e = .returned (.bool r) ∧ Drawn0 w w' := by
 have H : (if a0 ≥ 0 then (some (decide (a0 ≤ 1048576))) else (some false)) = some r := h
 clear h
 by_cases c2 : a0 ≥ 0
 ·rw [if_pos c2] at H
  have c2b0 : decide (0 ≤ a0) = true := decide_eq_true c2
  clear c2
  obtain rfl := Option.some.inj H
  go_enter Try.func44, Try.ntmps44
  go_wp2
  go_ret
  exact ⟨by first | rfl | (simp; done) | (simp [*]; done), by repeat (first | exact Drawn0.refl _ | apply Drawn0.step)⟩
 ·rw [if_neg c2] at H
  have c2b0 : decide (0 ≤ a0) = false := decide_eq_false c2
  clear c2
  obtain rfl := Option.some.inj H
  go_enter Try.func44, Try.ntmps44
  go_wp2
  go_ret
  exact ⟨by first | rfl | (simp; done) | (simp [*]; done), by repeat (first | exact Drawn0.refl _ | apply Drawn0.step)⟩

end Go.Proofs.Ytpfiecjacpbhkaa.D

/- What the Go functions named below come to, each told as_ a Lean function ('.f'), with the proof ('.calls'): no condition beyond those that each theorem states. Written by a program of this session's over the translation. -/
namespace Go.Proofs.Ytpfiecjacpbhkaa.D
open Go.RowKit Go.Proofs.YtpfiecjacpbhkaaW.PrintWords Go.Proofs.YtpfiecjacpbhkaaW.PrintLast Go.Proofs.YtpfiecjacpbhkaaW.PrintMore
attribute [local go_sem] max2_int min2_int max_two min_two max_three min_three max_four min_four   -- for this text's walks alone
set_option linter.unusedVariables false
set_option linter.unusedSimpArgs false

/-! ### insolvencyref33_checkTerms: function 40 -/
def insolvencyref33_checkTerms.f (a0 : Int) (a1_0 : Int) (a1_1 : Int) (l1_2 : List Int) : Option (Int) := (insolvencyref33_day.f a0).bind fun t251 => (if t251 = true then (if (l1_2.length : Int) > 1000 then (some 2) else (if a1_0 < 1 then (some 1) else (if a1_0 > 250 then (some 1) else (if a1_1 < 1 then (some 1) else (if a1_1 > 250 then (some 1) else (some 0)))))) else (some 1))
set_option maxHeartbeats 8000000 in
set_option maxRecDepth 100000 in
theorem insolvencyref33_checkTerms.calls (a0 : Int) (a1_0 : Int) (a1_1 : Int) (A1_2 : Option Addr) (c1_2 : Nat) (l1_2 : List Int) (r : Int) (w : World) (hr1_2 : Kd.C (Kd.int .i64) w A1_2 l1_2.length l1_2) (hc1_2 : l1_2.length ≤ c1_2) (h : insolvencyref33_checkTerms.f a0 a1_0 a1_1 l1_2 = some r) :
  Calls Try.prog 40 #[.int .i64 a0, .agg #[.int .i64 a1_0, .int .i64 a1_1, .slice A1_2 l1_2.length c1_2]] w fun e w' => e = .returned (.int .i64 r) ∧ Below w.heap.size w w' := by
 have hu27 := Try.underlying27
 have HR1_2 := Aside0.mk hr1_2
 have HC1_2 := Aside0.mk hc1_2
 clear hr1_2 hc1_2
 have HB := Aside0.mk (Below.refl w.heap.size w)
 have H : ((insolvencyref33_day.f a0).bind fun t251 => (if t251 = true then (if (l1_2.length : Int) > 1000 then (some 2) else (if a1_0 < 1 then (some 1) else (if a1_0 > 250 then (some 1) else (if a1_1 < 1 then (some 1) else (if a1_1 > 250 then (some 1) else (some 0)))))) else (some 1))) = some r := h
 clear h
 replace H := Option.bind_eq_some_iff.mp H
 obtain ⟨t251, A30, H⟩ := H
 replace H : (if t251 = true then (if (l1_2.length : Int) > 1000 then (some 2) else (if a1_0 < 1 then (some 1) else (if a1_0 > 250 then (some 1) else (if a1_1 < 1 then (some 1) else (if a1_1 > 250 then (some 1) else (some 0)))))) else (some 1)) = some r := H
 have A3 := Aside0.mk A30
 clear A30
 by_cases c4 : t251 = true
 ·subst c4
  have H1 : (if (l1_2.length : Int) > 1000 then (some 2) else (if a1_0 < 1 then (some 1) else (if a1_0 > 250 then (some 1) else (if a1_1 < 1 then (some 1) else (if a1_1 > 250 then (some 1) else (some 0)))))) = some r := by rw [if_pos rfl] at H; exact H
  clear H
  have H := H1
  clear H1
  by_cases c5 : (l1_2.length : Int) > 1000
  ·rw [if_pos c5] at H
   have c5b0 : decide (1000 < (l1_2.length : Int)) = true := decide_eq_true c5
   have c5b1 : decide (1000 < l1_2.length) = true := decide_eq_true (by omega)
   clear c5
   obtain rfl := Option.some.inj H
   go_enter Try.func40, Try.ntmps40
   go_wp2_with (first | ((with_reducible refine gate_dst (N := 3) rfl ?_); refine box_event ?hg (N := 3) ?hd (cs := #[.int .i64 a1_0, .int .i64 a1_1, .slice A1_2 l1_2.length c1_2]) (t := 27) ?hr ?_; (case hd => rfl); (case hg => rfl); (case hr => first | (go_simp; done) | (go_simp; rfl)); intro gb250 hg w6 hbox hb; have n0_ := Aside0.mk (below_step (pB HB) hb); have n1_ := Aside0.mk (hbox); have n2_ := Aside0.mk ((by rw [hg]; exact (below_size (pB HB)) : w.heap.size ≤ gb250)); have n3_ := Aside0.mk ((by rw [hg]; exact (below_size (pB HB)) : w.heap.size ≤ gb250)); clear HB; have HB := n0_; have BK250 := n1_; have GW250 := n2_; have GE250 := n3_; clear n0_ n1_ n2_ n3_; clear hb hbox hg) | ((with_reducible refine gate_callee (f := 44) rfl ?_); refine goesL_ (some 6) rfl rfl Try.func44 (by kernel_rfl) rfl #[.int .i64 a0] rfl (by (try simp only [List.map_toArray, List.map_cons, List.map_nil]); first | done | rfl | (simp only [List.length_drop, List.length_take]; rfl)) ?_; (with_reducible refine (insolvencyref33_day.calls a0 true _ A3.out).mono ?_); rintro e w' ⟨rfl, ⟨nd, rfl⟩⟩; refine ⟨_, rfl, ?_⟩; obtain ⟨hcz7_0, hcz7_1, hcz7_2⟩ := cells3 BK250; obtain ⟨hfz7_0, hfz7_1, hfz7_2⟩ := frz3 BK250))
   go_ret
   exact ⟨by first | rfl | (simp [errW_none, errW_some] <;> rfl) | (simp [*, errW_none, errW_some] <;> rfl), pB HB⟩
  ·rw [if_neg c5] at H
   have c5b0 : decide (1000 < (l1_2.length : Int)) = false := decide_eq_false c5
   have c5b1 : decide (1000 < l1_2.length) = false := decide_eq_false (by omega)
   clear c5
   by_cases c8 : a1_0 < 1
   ·rw [if_pos c8] at H
    have c8b0 : decide (a1_0 < 1) = true := decide_eq_true c8
    clear c8
    obtain rfl := Option.some.inj H
    go_enter Try.func40, Try.ntmps40
    go_wp2_with (first | ((with_reducible refine gate_dst (N := 3) rfl ?_); refine box_event ?hg (N := 3) ?hd (cs := #[.int .i64 a1_0, .int .i64 a1_1, .slice A1_2 l1_2.length c1_2]) (t := 27) ?hr ?_; (case hd => rfl); (case hg => rfl); (case hr => first | (go_simp; done) | (go_simp; rfl)); intro gb250 hg w9 hbox hb; have n0_ := Aside0.mk (below_step (pB HB) hb); have n1_ := Aside0.mk (hbox); have n2_ := Aside0.mk ((by rw [hg]; exact (below_size (pB HB)) : w.heap.size ≤ gb250)); have n3_ := Aside0.mk ((by rw [hg]; exact (below_size (pB HB)) : w.heap.size ≤ gb250)); clear HB; have HB := n0_; have BK250 := n1_; have GW250 := n2_; have GE250 := n3_; clear n0_ n1_ n2_ n3_; clear hb hbox hg) | ((with_reducible refine gate_callee (f := 44) rfl ?_); refine goesL_ (some 6) rfl rfl Try.func44 (by kernel_rfl) rfl #[.int .i64 a0] rfl (by (try simp only [List.map_toArray, List.map_cons, List.map_nil]); first | done | rfl | (simp only [List.length_drop, List.length_take]; rfl)) ?_; (with_reducible refine (insolvencyref33_day.calls a0 true _ A3.out).mono ?_); rintro e w' ⟨rfl, ⟨nd, rfl⟩⟩; refine ⟨_, rfl, ?_⟩; obtain ⟨hcz10_0, hcz10_1, hcz10_2⟩ := cells3 BK250; obtain ⟨hfz10_0, hfz10_1, hfz10_2⟩ := frz3 BK250))
    go_ret
    exact ⟨by first | rfl | (simp [errW_none, errW_some] <;> rfl) | (simp [*, errW_none, errW_some] <;> rfl), pB HB⟩
   ·rw [if_neg c8] at H
    have c8b0 : decide (a1_0 < 1) = false := decide_eq_false c8
    clear c8
    by_cases c11 : a1_0 > 250
    ·rw [if_pos c11] at H
     have c11b0 : decide (250 < a1_0) = true := decide_eq_true c11
     clear c11
     obtain rfl := Option.some.inj H
     go_enter Try.func40, Try.ntmps40
     go_wp2_with (first | ((with_reducible refine gate_dst (N := 3) rfl ?_); refine box_event ?hg (N := 3) ?hd (cs := #[.int .i64 a1_0, .int .i64 a1_1, .slice A1_2 l1_2.length c1_2]) (t := 27) ?hr ?_; (case hd => rfl); (case hg => rfl); (case hr => first | (go_simp; done) | (go_simp; rfl)); intro gb250 hg w12 hbox hb; have n0_ := Aside0.mk (below_step (pB HB) hb); have n1_ := Aside0.mk (hbox); have n2_ := Aside0.mk ((by rw [hg]; exact (below_size (pB HB)) : w.heap.size ≤ gb250)); have n3_ := Aside0.mk ((by rw [hg]; exact (below_size (pB HB)) : w.heap.size ≤ gb250)); clear HB; have HB := n0_; have BK250 := n1_; have GW250 := n2_; have GE250 := n3_; clear n0_ n1_ n2_ n3_; clear hb hbox hg) | ((with_reducible refine gate_callee (f := 44) rfl ?_); refine goesL_ (some 6) rfl rfl Try.func44 (by kernel_rfl) rfl #[.int .i64 a0] rfl (by (try simp only [List.map_toArray, List.map_cons, List.map_nil]); first | done | rfl | (simp only [List.length_drop, List.length_take]; rfl)) ?_; (with_reducible refine (insolvencyref33_day.calls a0 true _ A3.out).mono ?_); rintro e w' ⟨rfl, ⟨nd, rfl⟩⟩; refine ⟨_, rfl, ?_⟩; obtain ⟨hcz13_0, hcz13_1, hcz13_2⟩ := cells3 BK250; obtain ⟨hfz13_0, hfz13_1, hfz13_2⟩ := frz3 BK250))
     go_ret
     exact ⟨by first | rfl | (simp [errW_none, errW_some] <;> rfl) | (simp [*, errW_none, errW_some] <;> rfl), pB HB⟩
    ·rw [if_neg c11] at H
     have c11b0 : decide (250 < a1_0) = false := decide_eq_false c11
     clear c11
     by_cases c14 : a1_1 < 1
     ·rw [if_pos c14] at H
      have c14b0 : decide (a1_1 < 1) = true := decide_eq_true c14
      clear c14
      obtain rfl := Option.some.inj H
      go_enter Try.func40, Try.ntmps40
      go_wp2_with (first | ((with_reducible refine gate_dst (N := 3) rfl ?_); refine box_event ?hg (N := 3) ?hd (cs := #[.int .i64 a1_0, .int .i64 a1_1, .slice A1_2 l1_2.length c1_2]) (t := 27) ?hr ?_; (case hd => rfl); (case hg => rfl); (case hr => first | (go_simp; done) | (go_simp; rfl)); intro gb250 hg w15 hbox hb; have n0_ := Aside0.mk (below_step (pB HB) hb); have n1_ := Aside0.mk (hbox); have n2_ := Aside0.mk ((by rw [hg]; exact (below_size (pB HB)) : w.heap.size ≤ gb250)); have n3_ := Aside0.mk ((by rw [hg]; exact (below_size (pB HB)) : w.heap.size ≤ gb250)); clear HB; have HB := n0_; have BK250 := n1_; have GW250 := n2_; have GE250 := n3_; clear n0_ n1_ n2_ n3_; clear hb hbox hg) | ((with_reducible refine gate_callee (f := 44) rfl ?_); refine goesL_ (some 6) rfl rfl Try.func44 (by kernel_rfl) rfl #[.int .i64 a0] rfl (by (try simp only [List.map_toArray, List.map_cons, List.map_nil]); first | done | rfl | (simp only [List.length_drop, List.length_take]; rfl)) ?_; (with_reducible refine (insolvencyref33_day.calls a0 true _ A3.out).mono ?_); rintro e w' ⟨rfl, ⟨nd, rfl⟩⟩; refine ⟨_, rfl, ?_⟩; obtain ⟨hcz16_0, hcz16_1, hcz16_2⟩ := cells3 BK250; obtain ⟨hfz16_0, hfz16_1, hfz16_2⟩ := frz3 BK250))
      go_ret
      exact ⟨by first | rfl | (simp [errW_none, errW_some] <;> rfl) | (simp [*, errW_none, errW_some] <;> rfl), pB HB⟩
     ·rw [if_neg c14] at H
      have c14b0 : decide (a1_1 < 1) = false := decide_eq_false c14
      clear c14
      by_cases c17 : a1_1 > 250
      ·rw [if_pos c17] at H
       have c17b0 : decide (250 < a1_1) = true := decide_eq_true c17
       clear c17
       obtain rfl := Option.some.inj H
       go_enter Try.func40, Try.ntmps40
       go_wp2_with (first | ((with_reducible refine gate_dst (N := 3) rfl ?_); refine box_event ?hg (N := 3) ?hd (cs := #[.int .i64 a1_0, .int .i64 a1_1, .slice A1_2 l1_2.length c1_2]) (t := 27) ?hr ?_; (case hd => rfl); (case hg => rfl); (case hr => first | (go_simp; done) | (go_simp; rfl)); intro gb250 hg w18 hbox hb; have n0_ := Aside0.mk (below_step (pB HB) hb); have n1_ := Aside0.mk (hbox); have n2_ := Aside0.mk ((by rw [hg]; exact (below_size (pB HB)) : w.heap.size ≤ gb250)); have n3_ := Aside0.mk ((by rw [hg]; exact (below_size (pB HB)) : w.heap.size ≤ gb250)); clear HB; have HB := n0_; have BK250 := n1_; have GW250 := n2_; have GE250 := n3_; clear n0_ n1_ n2_ n3_; clear hb hbox hg) | ((with_reducible refine gate_callee (f := 44) rfl ?_); refine goesL_ (some 6) rfl rfl Try.func44 (by kernel_rfl) rfl #[.int .i64 a0] rfl (by (try simp only [List.map_toArray, List.map_cons, List.map_nil]); first | done | rfl | (simp only [List.length_drop, List.length_take]; rfl)) ?_; (with_reducible refine (insolvencyref33_day.calls a0 true _ A3.out).mono ?_); rintro e w' ⟨rfl, ⟨nd, rfl⟩⟩; refine ⟨_, rfl, ?_⟩; obtain ⟨hcz19_0, hcz19_1, hcz19_2⟩ := cells3 BK250; obtain ⟨hfz19_0, hfz19_1, hfz19_2⟩ := frz3 BK250))
       go_ret
       exact ⟨by first | rfl | (simp [errW_none, errW_some] <;> rfl) | (simp [*, errW_none, errW_some] <;> rfl), pB HB⟩
      ·rw [if_neg c17] at H
       have c17b0 : decide (250 < a1_1) = false := decide_eq_false c17
       clear c17
       obtain rfl := Option.some.inj H
       go_enter Try.func40, Try.ntmps40
       go_wp2_with (first | ((with_reducible refine gate_dst (N := 3) rfl ?_); refine box_event ?hg (N := 3) ?hd (cs := #[.int .i64 a1_0, .int .i64 a1_1, .slice A1_2 l1_2.length c1_2]) (t := 27) ?hr ?_; (case hd => rfl); (case hg => rfl); (case hr => first | (go_simp; done) | (go_simp; rfl)); intro gb250 hg w20 hbox hb; have n0_ := Aside0.mk (below_step (pB HB) hb); have n1_ := Aside0.mk (hbox); have n2_ := Aside0.mk ((by rw [hg]; exact (below_size (pB HB)) : w.heap.size ≤ gb250)); have n3_ := Aside0.mk ((by rw [hg]; exact (below_size (pB HB)) : w.heap.size ≤ gb250)); clear HB; have HB := n0_; have BK250 := n1_; have GW250 := n2_; have GE250 := n3_; clear n0_ n1_ n2_ n3_; clear hb hbox hg) | ((with_reducible refine gate_callee (f := 44) rfl ?_); refine goesL_ (some 6) rfl rfl Try.func44 (by kernel_rfl) rfl #[.int .i64 a0] rfl (by (try simp only [List.map_toArray, List.map_cons, List.map_nil]); first | done | rfl | (simp only [List.length_drop, List.length_take]; rfl)) ?_; (with_reducible refine (insolvencyref33_day.calls a0 true _ A3.out).mono ?_); rintro e w' ⟨rfl, ⟨nd, rfl⟩⟩; refine ⟨_, rfl, ?_⟩; obtain ⟨hcz21_0, hcz21_1, hcz21_2⟩ := cells3 BK250; obtain ⟨hfz21_0, hfz21_1, hfz21_2⟩ := frz3 BK250))
       go_ret
       exact ⟨by first | rfl | (simp [errW_none, errW_some] <;> rfl) | (simp [*, errW_none, errW_some] <;> rfl), pB HB⟩
 ·replace c4 := Bool.eq_false_iff.mpr c4
  subst c4
  have H1 : (some 1) = some r := by rw [if_neg (show ¬ (false = true) by decide)] at H; exact H
  clear H
  have H := H1
  clear H1
  obtain rfl := Option.some.inj H
  go_enter Try.func40, Try.ntmps40
  go_wp2_with (first | ((with_reducible refine gate_dst (N := 3) rfl ?_); refine box_event ?hg (N := 3) ?hd (cs := #[.int .i64 a1_0, .int .i64 a1_1, .slice A1_2 l1_2.length c1_2]) (t := 27) ?hr ?_; (case hd => rfl); (case hg => rfl); (case hr => first | (go_simp; done) | (go_simp; rfl)); intro gb250 hg w22 hbox hb; have n0_ := Aside0.mk (below_step (pB HB) hb); have n1_ := Aside0.mk (hbox); have n2_ := Aside0.mk ((by rw [hg]; exact (below_size (pB HB)) : w.heap.size ≤ gb250)); have n3_ := Aside0.mk ((by rw [hg]; exact (below_size (pB HB)) : w.heap.size ≤ gb250)); clear HB; have HB := n0_; have BK250 := n1_; have GW250 := n2_; have GE250 := n3_; clear n0_ n1_ n2_ n3_; clear hb hbox hg) | ((with_reducible refine gate_callee (f := 44) rfl ?_); refine goesL_ (some 6) rfl rfl Try.func44 (by kernel_rfl) rfl #[.int .i64 a0] rfl (by (try simp only [List.map_toArray, List.map_cons, List.map_nil]); first | done | rfl | (simp only [List.length_drop, List.length_take]; rfl)) ?_; (with_reducible refine (insolvencyref33_day.calls a0 false _ A3.out).mono ?_); rintro e w' ⟨rfl, ⟨nd, rfl⟩⟩; refine ⟨_, rfl, ?_⟩))
  go_ret
  exact ⟨by first | rfl | (simp [errW_none, errW_some] <;> rfl) | (simp [*, errW_none, errW_some] <;> rfl), pB HB⟩

end Go.Proofs.Ytpfiecjacpbhkaa.D

/- What the Go functions named below come to, each told as_ a Lean function ('.f'), with the proof ('.calls'): no condition beyond those that each theorem states. Written by a program of this session's over the translation. -/
namespace Go.Proofs.Ytpfiecjacpbhkaa.D
open Go.RowKit Go.Proofs.YtpfiecjacpbhkaaW.PrintWords Go.Proofs.YtpfiecjacpbhkaaW.PrintLast Go.Proofs.YtpfiecjacpbhkaaW.PrintMore
attribute [local go_sem] max2_int min2_int max_two min_two max_three min_three max_four min_four   -- for this text's walks alone
set_option linter.unusedVariables false
set_option linter.unusedSimpArgs false

/-! ### insolvencyref33_NewDocket: function 22 -/
def insolvencyref33_NewDocket.f (a0 : Int) (a1_0 : Int) (a1_1 : Int) (l1_2 : List Int) : Option (Int × Int × Int × List Int × (List (S50)) × Int) := (insolvencyref33_checkTerms.f a0 a1_0 a1_1 l1_2).bind fun t254 => (if t254 = 0 then ((some (([] : List Int) : List Int)).bind fun y255 => (if y255.length + l1_2.length < 17592186044416 then (some (a0, a1_0, a1_1, (y255 ++ l1_2), ([] : List (S50)), 0)) else (none))) else (some (0, 0, 0, ([] : List Int), ([] : List (S50)), t254)))
def insolvencyref33_NewDocket.T4 : Bool × List (List Nat × List Nat) := (true, [([], []), ([], []), ([1], [1]), ([], []), ([3], [3]), ([], []), ([], []), ([6], [6]), ([5, 7], [5, 7]), ([2, 4, 8], [2, 4, 8]), ([0, 9], [0, 9]), ([10, 8, 0, 1, 2, 3, 4, 5, 6, 7, 8, 9, 10], [10]), ([11, 0, 1, 2, 3, 4, 5, 6, 7, 8, 9, 10, 11], [])])
def insolvencyref33_NewDocket.B4 : List Nat := [0, 0, 2, 0, 8, 0, 0, 64, 224, 510, 1023, 2047, 4095]
theorem insolvencyref33_NewDocket.tab4 : rtab .any (opsOf Try.f22 4) = insolvencyref33_NewDocket.T4 := by kernel_rfl
theorem insolvencyref33_NewDocket.bits4 : waitsOk insolvencyref33_NewDocket.T4.2 insolvencyref33_NewDocket.B4 = true := by kernel_rfl
set_option maxHeartbeats 8000000 in
set_option maxRecDepth 100000 in
theorem insolvencyref33_NewDocket.calls (a0 : Int) (a1_0 : Int) (a1_1 : Int) (A1_2 : Option Addr) (c1_2 : Nat) (l1_2 : List Int) (r1 : Int) (r2 : Int) (r3 : Int) (r4 : List Int) (r5 : List (S50)) (r6 : Int) (w : World) (hr1_2 : Kd.C (Kd.int .i64) w A1_2 l1_2.length l1_2) (hc1_2 : l1_2.length ≤ c1_2) (h : insolvencyref33_NewDocket.f a0 a1_0 a1_1 l1_2 = some (r1, r2, r3, r4, r5, r6)) :
  Calls Try.prog 22 #[.int .i64 a0, .agg #[.int .i64 a1_0, .int .i64 a1_1, .slice A1_2 l1_2.length c1_2]] w fun e w' => ∃ v3_ v4_ : Value, e = .returned (.tuple #[.agg #[.int .i64 r1, .int .i64 r2, .int .i64 r3, v3_, v4_], .int .i64 r6]) ∧ Kd.R (Kd.int .i64) 3 w' w.heap.size (fun _ => True) v3_ r4 ∧ Kd.R k50 50 w' w.heap.size (fun _ => True) v4_ r5 ∧ Below w.heap.size w w' := by
 have hu27 := Try.underlying27
 have hu30 := Try.underlying30
 have HR1_2 := Aside0.mk hr1_2
 have HC1_2 := Aside0.mk hc1_2
 clear hr1_2 hc1_2
 have HB := Aside0.mk (Below.refl w.heap.size w)
 have H : ((insolvencyref33_checkTerms.f a0 a1_0 a1_1 l1_2).bind fun t254 => (if t254 = 0 then ((some (([] : List Int) : List Int)).bind fun y255 => (if y255.length + l1_2.length < 17592186044416 then (some (a0, a1_0, a1_1, (y255 ++ l1_2), ([] : List (S50)), 0)) else (none))) else (some (0, 0, 0, ([] : List Int), ([] : List (S50)), t254)))) = some (r1, r2, r3, r4, r5, r6) := h
 clear h
 replace H := Option.bind_eq_some_iff.mp H
 obtain ⟨t254, A30, H⟩ := H
 replace H : (if t254 = 0 then ((some (([] : List Int) : List Int)).bind fun y255 => (if y255.length + l1_2.length < 17592186044416 then (some (a0, a1_0, a1_1, (y255 ++ l1_2), ([] : List (S50)), 0)) else (none))) else (some (0, 0, 0, ([] : List Int), ([] : List (S50)), t254))) = some (r1, r2, r3, r4, r5, r6) := H
 have A3 := Aside0.mk A30
 clear A30
 by_cases c4 : t254 = 0
 ·rw [if_pos c4] at H
  have c4b0 : (t254 == 0) = true := beq_iff_eq.mpr c4
  have c4b1 : (t254 != 0) = false := bne_eq_false_iff_eq.mpr c4
  clear c4
  obtain ⟨y255, hy255⟩ : ∃ y_ : List Int, y_ = (([] : List Int)) := ⟨_, rfl⟩
  replace H : (if y255.length + l1_2.length < 17592186044416 then (some (a0, a1_0, a1_1, (y255 ++ l1_2), ([] : List (S50)), 0)) else (none)) = some (r1, r2, r3, r4, r5, r6) := by first | (rw [hy255]; with_reducible exact H) | (have H2_ := (Option.bind_some _ _).symm.trans H; rw [hy255]; with_reducible exact H2_) | (have H2_ := (Option.bind_some _ _).symm.trans H; with_reducible exact H2_) | with_reducible exact H | (rw [hy255]; exact H) | exact H
  have Ny255 := Aside0.mk hy255
  clear hy255
  by_cases c5 : y255.length + l1_2.length < 17592186044416
  ·rw [if_pos c5] at H
   have LMc5 := Aside0.mk c5
   clear c5
   obtain ⟨y258, hy258⟩ : ∃ y_ : List Int, y_ = (y255 ++ l1_2) := ⟨_, rfl⟩
   replace H : (some (a0, a1_0, a1_1, y258, ([] : List (S50)), 0)) = some (r1, r2, r3, r4, r5, r6) := by first | (rw [hy258]; with_reducible exact H) | (have H2_ := (Option.bind_some _ _).symm.trans H; rw [hy258]; with_reducible exact H2_) | (have H2_ := (Option.bind_some _ _).symm.trans H; with_reducible exact H2_) | with_reducible exact H | (rw [hy258]; exact H) | exact H
   have Ny258 := Aside0.mk hy258
   clear hy258
   simp only [Option.some.injEq, Prod.mk.injEq] at H
   obtain ⟨rfl, rfl, rfl, rfl, rfl, rfl⟩ := H
   go_enter Try.func22, Try.ntmps22
   try go_wp2_with (first | ((with_reducible refine gate_dst (N := 3) rfl ?_); refine box_event ?hg (N := 3) ?hd (cs := #[.int .i64 a1_0, .int .i64 a1_1, .slice A1_2 l1_2.length c1_2]) (t := 27) ?hr ?_; (case hd => rfl); (case hg => rfl); (case hr => first | (go_simp; done) | (go_simp; rfl)); intro gb252 hg w6 hbox hb; have n0_ := Aside0.mk (below_step (pB HB) hb); have n1_ := Aside0.mk (hbox); have n2_ := Aside0.mk ((by rw [hg]; exact (below_size (pB HB)) : w.heap.size ≤ gb252)); have n3_ := Aside0.mk ((by rw [hg]; exact (below_size (pB HB)) : w.heap.size ≤ gb252)); clear HB; have HB := n0_; have BK252 := n1_; have GW252 := n2_; have GE252 := n3_; clear n0_ n1_ n2_ n3_; clear hb hbox hg) | ((with_reducible refine gate_dst (N := 4) rfl ?_); refine box_event ?hg (N := 4) ?hd (cs := #[.int .i64 0, .int .i64 0, .int .i64 0, .slice none 0 0, .slice none 0 0]) (t := 30) ?hr ?_; (case hd => rfl); (case hg => rfl); (case hr => first | (go_simp; done) | (go_simp; rfl)); intro gb253 hg w7 hbox hb; have n0_ := bB BK252 hb; have n1_ := Aside0.mk (below_step (pB HB) hb); have n2_ := Aside0.mk (hbox); have n3_ := Aside0.mk ((by rw [hg]; exact (below_size (pB HB)) : w.heap.size ≤ gb253)); have n4_ := Aside0.mk ((by rw [hg]; exact (below_size (pB HB)) : w.heap.size ≤ gb253)); have n5_ := Aside0.mk ((by rw [hg]; exact Nat.ne_of_lt (blk_lt (g := gb252) (o := .cells #[.int .i64 a1_0, .int .i64 a1_1, .slice A1_2 l1_2.length c1_2] 27 (0, 0)) (by (with_reducible repeat (first | refine blk_drewN ?_ _ | refine blk_drew ?_ | refine blk_alloc ?_ _)); exact BK252.out)) : gb252 ≠ gb253)); have n6_ := Aside0.mk ((by rw [hg]; exact Nat.ne_of_gt (blk_lt (g := gb252) (o := .cells #[.int .i64 a1_0, .int .i64 a1_1, .slice A1_2 l1_2.length c1_2] 27 (0, 0)) (by (with_reducible repeat (first | refine blk_drewN ?_ _ | refine blk_drew ?_ | refine blk_alloc ?_ _)); exact BK252.out)) : gb253 ≠ gb252)); clear BK252; clear HB; have BK252 := n0_; have HB := n1_; have BK253 := n2_; have GW253 := n3_; have GE253 := n4_; have NB252_253 := n5_; have NB253_252 := n6_; clear n0_ n1_ n2_ n3_ n4_ n5_ n6_; clear hb hbox hg; have hnb8 := NB252_253.out; have hnc8 := NB253_252.out; obtain ⟨hcz9_0, hcz9_1, hcz9_2⟩ := cells3 BK252; obtain ⟨hfz9_0, hfz9_1, hfz9_2⟩ := frz3 BK252) | ((with_reducible refine gate_callee (f := 40) rfl ?_); refine goesL_ (some 9) rfl rfl Try.func40 (by kernel_rfl) rfl #[.int .i64 a0, .agg #[.int .i64 a1_0, .int .i64 a1_1, .slice A1_2 l1_2.length c1_2]] rfl (by (try simp only [List.map_toArray, List.map_cons, List.map_nil]); first | done | rfl | (simp only [List.length_drop, List.length_take]; rfl)) ?_; (with_reducible refine (insolvencyref33_checkTerms.calls a0 a1_0 a1_1 _ _ l1_2 t254 _ ?side1 ?side2 A3.out).mono ?_); (case side1 => repeat (first | exact (Kd.C_below HR1_2.out HB.out) | (with_reducible refine Kd.C_alloc ?_ _) | (with_reducible refine Kd.C_drewN ?_ _) | (with_reducible refine Kd.C_drew ?_))); (case side2 => exact HC1_2.out); rintro e w10 ⟨rfl, hb⟩; refine ⟨_, rfl, ?_⟩; have n0_ := bB BK252 hb; have n1_ := bB BK253 hb; have n2_ := Aside0.mk (below_step (pB HB) hb); clear BK252; clear BK253; clear HB; have BK252 := n0_; have BK253 := n1_; have HB := n2_; clear n0_ n1_ n2_; (try clear hb); (try clear hb2); (try clear hk); (try clear hi)))
   have n0_ := Aside0.mk (blk_drew BK252.out)
   have n1_ := Aside0.mk (blk_drew BK253.out)
   have n2_ := Aside0.mk (below_drew1 HB.out)
   clear BK252
   clear BK253
   clear HB
   have BK252 := n0_
   have BK253 := n1_
   have HB := n2_
   clear n0_ n1_ n2_
   refine start_ (n := 13) (S := fun w' => w'.cell? ⟨gb252, 0, none⟩ = some (.int .i64 a1_0) ∧ w'.cell? ⟨gb252, 1, none⟩ = some (.int .i64 a1_1) ∧ w'.cell? ⟨gb252, 2, none⟩ = some (.slice A1_2 l1_2.length c1_2)) (ds := []) #[false, false, false, false, false, false, false, false, false, false, false, false, false] (by kernel_rfl) rfl rfl ⟨(blk_cell BK252.out 0).trans rfl, (blk_cell BK252.out 1).trans rfl, (blk_cell BK252.out 2).trans rfl⟩ (fun hHeld => ?_); refine with_tabW insolvencyref33_NewDocket.tab4 insolvencyref33_NewDocket.bits4 (fun HT_ HW_ => ?_)
   generalize w10.drew = w11 at BK252 BK253 HB hHeld ⊢
   refine pure_ (i := 0) (N := some 14) (v := ?_) (a' := ?_) #[true, false, false, false, false, false, false, false, false, false, false, false, false] rfl rfl (any_of HT_.out (by kernel_rfl)) (fun _ _ _ h => h) (Or.inl ⟨by rfl, ?_⟩) ?_ ?_
   rotate_left
   ·intro w'
    go_simp
    with_reducible rfl
   rotate_left
   ·simp only [Act.put, List.setIfInBounds_toArray, List.set_cons_zero, List.set_cons_succ, i64_w, i32_w]
    rfl
   refine pure_ (i := 1) (N := some 15) (v := ?_) (a' := ?_) #[true, true, false, false, false, false, false, false, false, false, false, false, false] rfl rfl (any_of HT_.out (by kernel_rfl)) (fun _ _ _ h => h) (Or.inl ⟨by rfl, ?_⟩) ?_ ?_
   rotate_left
   ·intro w'
    go_simp
    with_reducible rfl
   rotate_left
   ·simp only [Act.put, List.setIfInBounds_toArray, List.set_cons_zero, List.set_cons_succ, i64_w, i32_w]
    rfl
   refine pure_ (i := 3) (N := some 17) (v := ?_) (a' := ?_) #[true, true, false, true, false, false, false, false, false, false, false, false, false] rfl rfl (any_of HT_.out (by kernel_rfl)) (fun _ _ _ h => h) (Or.inl ⟨by rfl, ?_⟩) ?_ ?_
   rotate_left
   ·intro w'
    go_simp
    with_reducible rfl
   rotate_left
   ·simp only [Act.put, List.setIfInBounds_toArray, List.set_cons_zero, List.set_cons_succ, i64_w, i32_w]
    rfl
   refine pure_ (i := 6) (N := some 20) (v := ?_) (a' := ?_) #[true, true, false, true, false, false, true, false, false, false, false, false, false] rfl rfl (any_of HT_.out (by kernel_rfl)) (fun _ _ _ h => h) (Or.inl ⟨by rfl, ?_⟩) ?_ ?_
   rotate_left
   ·intro w'
    go_simp
    with_reducible rfl
   rotate_left
   ·simp only [Act.put, List.setIfInBounds_toArray, List.set_cons_zero, List.set_cons_succ, i64_w, i32_w]
    rfl
   refine take_ (i := 2) (N := some 16) (v := ?_) (a' := ?_) #[true, true, true, true, false, false, true, false, false, false, false, false, false] rfl rfl (take_ofW HT_.out HW_.out (by kernel_rfl)) (fun _ _ _ h => h) (Or.inl ⟨by rfl, ?_⟩) hHeld ?_ ?_
   rotate_left
   ·rintro w' ⟨s0, s1, s2⟩
    go_simp
    with_reducible rfl
   rotate_left
   ·simp only [Act.put, List.setIfInBounds_toArray, List.set_cons_zero, List.set_cons_succ, i64_w, i32_w]
    rfl
   refine take_ (i := 4) (N := some 18) (v := ?_) (a' := ?_) #[true, true, true, true, true, false, true, false, false, false, false, false, false] rfl rfl (take_ofW HT_.out HW_.out (by kernel_rfl)) (fun _ _ _ h => h) (Or.inl ⟨by rfl, ?_⟩) hHeld ?_ ?_
   rotate_left
   ·rintro w' ⟨s0, s1, s2⟩
    go_simp
    with_reducible rfl
   rotate_left
   ·simp only [Act.put, List.setIfInBounds_toArray, List.set_cons_zero, List.set_cons_succ, i64_w, i32_w]
    rfl
   refine take_ (i := 7) (N := some 21) (v := ?_) (a' := ?_) #[true, true, true, true, true, false, true, true, false, false, false, false, false] rfl rfl (take_ofW HT_.out HW_.out (by kernel_rfl)) (fun _ _ _ h => h) (Or.inl ⟨by rfl, ?_⟩) hHeld ?_ ?_
   rotate_left
   ·rintro w' ⟨s0, s1, s2⟩
    go_simp
    with_reducible rfl
   rotate_left
   ·simp only [Act.put, List.setIfInBounds_toArray, List.set_cons_zero, List.set_cons_succ, i64_w, i32_w]
    rfl
   refine one_ (i := 5) (N := some 19) #[true, true, true, true, true, true, true, true, false, false, false, false, false] rfl rfl (one_of HT_.out (by kernel_rfl)) (by decide) (fun K hK => ?_)
   refine Kd.R_lit_step (Kd.int .i64) _ 3 ?hg (N := 19) ?hd (xs := ([] : List Int)) (inner := []) (ok := fun _ => True) (okp := fun _ => True) ?hr ?hp (fun _ hk => hk) trivial (Below.refl _ _) (Nat.le_refl _) (by simp) ?_; (case hd => rfl); (case hg => rfl); (case hr => first | (go_simp; done) | (go_simp; rfl)); (case hp => exact (Reps.none _ _))
   intro v256 w12 ho13 hb hg_ hnew_
   clear hg_ hnew_
   (first | rw [← Ny255.out] at ho13 | (simp only [Int.reduceToNat] at ho13; rw [← Ny255.out] at ho13))
   have n0_ := Aside0.mk (Kd.R_lower ho13 (below_size (pB HB)))
   have n1_ := bB BK252 hb
   have n2_ := bB BK253 hb
   have n3_ := Aside0.mk (below_step (pB HB) hb)
   clear BK252
   clear BK253
   clear HB
   have HO257 := n0_
   have BK252 := n1_
   have BK253 := n2_
   have HB := n3_
   clear n0_ n1_ n2_ n3_
   clear hb ho13
   refine hK.out _ _ ⟨(blk_cell BK252.out 0).trans rfl, (blk_cell BK252.out 1).trans rfl, (blk_cell BK252.out 2).trans rfl⟩ (fun hHeld => ?_)
   clear hK K
   refine norm_ (a' := ?_) ?_ ?_
   rotate_left
   ·show Act.put _ (some 19) _ = _
    simp only [Act.put, List.setIfInBounds_toArray, List.set_cons_zero, List.set_cons_succ, i64_w, i32_w]
    rfl
   refine one_ (i := 8) (N := some 22) #[true, true, true, true, true, true, true, true, true, false, false, false, false] rfl rfl (one_of HT_.out (by kernel_rfl)) (by decide) (fun K hK => ?_)
   refine Kd.R_append_rows_step (Kd.int .i64) (w0 := w) w.heap.size (by rfl) (.tmp 19) (.tmp 21) 25 3 (.int .i64 0) 8 rfl Try.underlying25 info3 rfl (by decide) (by omega) v256 y255 l1_2 _ _ _ (fun _ => True) (fun _ => False) rfl rfl ?aO ?aR (fun _ _ h => h) (fun _ h => h.elim) ?aF ?aB ?aS ?aL ?_
   (case aR => repeat (first | exact (Kd.C_below HR1_2.out HB.out) | (with_reducible refine Kd.C_alloc ?_ _) | (with_reducible refine Kd.C_drewN ?_ _) | (with_reducible refine Kd.C_drew ?_)))
   (case aB => exact (pB HB))
   (case aF => exact (fun _ _ => trivial))
   (case aO => exact (by (with_reducible repeat (first | apply Kd.R_alloc | apply Kd.R_drewN | apply Kd.R_drew)); exact HO257.out))
   (case aS => exact (below_size (pB HB)))
   (case aL => have := LMc5.out; omega)
   intro v259 w14 ho hb hg hat
   rw [← Ny258.out] at ho
   have n0_ := Aside0.mk (blk_grown (g := gb252) (o := .cells #[.int .i64 a1_0, .int .i64 a1_1, .slice A1_2 l1_2.length c1_2] 27 (0, 0)) (by (with_reducible repeat (first | refine blk_drewN ?_ _ | refine blk_drew ?_ | refine blk_alloc ?_ _)); exact BK252.out) hg (Kd.R_ne HO257.out BK252.out (by decide)))
   have n1_ := Aside0.mk (blk_grown (g := gb253) (o := .cells #[.int .i64 0, .int .i64 0, .int .i64 0, .slice none 0 0, .slice none 0 0] 30 (0, 0)) (by (with_reducible repeat (first | refine blk_drewN ?_ _ | refine blk_drew ?_ | refine blk_alloc ?_ _)); exact BK253.out) hg (Kd.R_ne HO257.out BK253.out (by decide)))
   have n2_ := Aside0.mk (hb)
   have n3_ := Aside0.mk (ho)
   clear BK252
   clear BK253
   clear HB
   clear HO257
   have BK252 := n0_
   have BK253 := n1_
   have HB := n2_
   have HO260 := n3_
   clear n0_ n1_ n2_ n3_
   clear ho hb hg hat
   obtain ⟨Ao15, co15, eo15⟩ := Kd.R_slice HO260.out
   (first | subst eo15 | (injection eo15 with f1_ f2_ f3_; have f4_ := f1_.symm; have f5_ := f3_.symm; clear f1_ f2_ f3_; subst f4_; subst f5_))
   refine hK.out _ _ ⟨(blk_cell BK252.out 0).trans rfl, (blk_cell BK252.out 1).trans rfl, (blk_cell BK252.out 2).trans rfl⟩ (fun hHeld => ?_)
   clear hK K
   refine norm_ (a' := ?_) ?_ ?_
   rotate_left
   ·show Act.put _ (some 22) _ = _
    simp only [Act.put, List.setIfInBounds_toArray, List.set_cons_zero, List.set_cons_succ, i64_w, i32_w]
    rfl
   refine pure_ (i := 9) (N := some 23) (v := ?_) (a' := ?_) #[true, true, true, true, true, true, true, true, true, true, false, false, false] rfl rfl (any_of HT_.out (by kernel_rfl)) (fun _ _ _ h => h) (Or.inl ⟨by rfl, ?_⟩) ?_ ?_
   rotate_left
   ·intro w'
    go_simp
    with_reducible rfl
   rotate_left
   ·simp only [Act.put, List.setIfInBounds_toArray, List.set_cons_zero, List.set_cons_succ, i64_w, i32_w]
    rfl
   refine pure_ (i := 10) (N := some 24) (v := ?_) (a' := ?_) #[true, true, true, true, true, true, true, true, true, true, true, false, false] rfl rfl (any_of HT_.out (by kernel_rfl)) (fun _ _ _ h => h) (Or.inl ⟨by rfl, ?_⟩) ?_ ?_
   rotate_left
   ·intro w'
    go_simp
    with_reducible rfl
   rotate_left
   ·simp only [Act.put, List.setIfInBounds_toArray, List.set_cons_zero, List.set_cons_succ, i64_w, i32_w]
    rfl
   refine one_ (i := 11) (N := none) #[true, true, true, true, true, true, true, true, true, true, true, true, false] rfl rfl (one_of HT_.out (by kernel_rfl)) (by decide) (fun K hK => ?_)
   have hs16 : w14.cell? ⟨gb253, 0, none⟩ = some (.int .i64 0) := (blk_cell BK253.out 0).trans rfl
   have hfs16 := blk_frozen BK253.out 0
   have hns16_0 := NB252_253.out
   have hms16_0 := NB253_252.out
   have hs17 : w14.cell? ⟨gb253, 1, none⟩ = some (.int .i64 0) := (blk_cell BK253.out 1).trans rfl
   have hfs17 := blk_frozen BK253.out 1
   have hns17_0 := NB252_253.out
   have hms17_0 := NB253_252.out
   have hs18 : w14.cell? ⟨gb253, 2, none⟩ = some (.int .i64 0) := (blk_cell BK253.out 2).trans rfl
   have hfs18 := blk_frozen BK253.out 2
   have hns18_0 := NB252_253.out
   have hms18_0 := NB253_252.out
   have hs19 : w14.cell? ⟨gb253, 3, none⟩ = some (.slice none 0 0) := (blk_cell BK253.out 3).trans rfl
   have hfs19 := blk_frozen BK253.out 3
   have hns19_0 := NB252_253.out
   have hms19_0 := NB253_252.out
   have hs20 : w14.cell? ⟨gb253, 4, none⟩ = some (.slice none 0 0) := (blk_cell BK253.out 4).trans rfl
   have hfs20 := blk_frozen BK253.out 4
   have hns20_0 := NB252_253.out
   have hms20_0 := NB253_252.out
   refine skip_ (w1 := ?_) (by rfl) rfl ?_ ?_
   rotate_left
   ·go_simp
    rfl
   refine hK.out _ _ ⟨((cell_far (p := ⟨gb253, _, none⟩) NB252_253.out _).trans (((cell_far (p := ⟨gb253, _, none⟩) NB252_253.out _).trans (((cell_far (p := ⟨gb253, _, none⟩) NB252_253.out _).trans (((cell_far (p := ⟨gb253, _, none⟩) NB252_253.out _).trans (((cell_far (p := ⟨gb253, _, none⟩) NB252_253.out _).trans (hHeld.1)))))))))), ((cell_far (p := ⟨gb253, _, none⟩) NB252_253.out _).trans (((cell_far (p := ⟨gb253, _, none⟩) NB252_253.out _).trans (((cell_far (p := ⟨gb253, _, none⟩) NB252_253.out _).trans (((cell_far (p := ⟨gb253, _, none⟩) NB252_253.out _).trans (((cell_far (p := ⟨gb253, _, none⟩) NB252_253.out _).trans (hHeld.2.1)))))))))), ((cell_far (p := ⟨gb253, _, none⟩) NB252_253.out _).trans (((cell_far (p := ⟨gb253, _, none⟩) NB252_253.out _).trans (((cell_far (p := ⟨gb253, _, none⟩) NB252_253.out _).trans (((cell_far (p := ⟨gb253, _, none⟩) NB252_253.out _).trans (((cell_far (p := ⟨gb253, _, none⟩) NB252_253.out _).trans (hHeld.2.2))))))))))⟩ (fun hHeld => ?_)
   clear hK K
   refine pure_ (i := 12) (N := some 5) (v := ?_) (a' := ?_) #[true, true, true, true, true, true, true, true, true, true, true, true, true] rfl rfl (any_of HT_.out (by kernel_rfl)) (fun _ _ _ h => h) (Or.inl ⟨by rfl, ?_⟩) ?_ ?_
   rotate_left
   ·intro w'
    go_simp
    with_reducible rfl
   rotate_left
   ·simp only [Act.put, List.setIfInBounds_toArray, List.set_cons_zero, List.set_cons_succ, i64_w, i32_w]
    rfl
   refine done_ (done_of HT_.out (by kernel_rfl)) ?_
   try go_wp2
   refine bodyPost_ret (results_ct rfl _ _ gb253 30 #[.int .i64 a0, .int .i64 a1_0, .int .i64 a1_1, .slice Ao15 y258.length co15, .slice none 0 0] (0, 0) _ rfl (by (with_reducible repeat (first | refine blk_drewN ?_ _ | refine blk_drew ?_ | refine blk_alloc ?_ _)); refine blk_put (cs := #[.int .i64 a0, .int .i64 a1_0, .int .i64 a1_1, .slice Ao15 y258.length co15, .slice none 0 0]) ?_ 4 _ rfl; (with_reducible repeat (first | refine blk_drewN ?_ _ | refine blk_drew ?_ | refine blk_alloc ?_ _)); refine blk_put (cs := #[.int .i64 a0, .int .i64 a1_0, .int .i64 a1_1, .slice none 0 0, .slice none 0 0]) ?_ 3 _ rfl; (with_reducible repeat (first | refine blk_drewN ?_ _ | refine blk_drew ?_ | refine blk_alloc ?_ _)); refine blk_put (cs := #[.int .i64 a0, .int .i64 a1_0, .int .i64 0, .slice none 0 0, .slice none 0 0]) ?_ 2 _ rfl; (with_reducible repeat (first | refine blk_drewN ?_ _ | refine blk_drew ?_ | refine blk_alloc ?_ _)); refine blk_put (cs := #[.int .i64 a0, .int .i64 0, .int .i64 0, .slice none 0 0, .slice none 0 0]) ?_ 1 _ rfl; (with_reducible repeat (first | refine blk_drewN ?_ _ | refine blk_drew ?_ | refine blk_alloc ?_ _)); refine blk_put (cs := #[.int .i64 0, .int .i64 0, .int .i64 0, .slice none 0 0, .slice none 0 0]) ?_ 0 _ rfl; (with_reducible repeat (first | refine blk_drewN ?_ _ | refine blk_drew ?_ | refine blk_alloc ?_ _)); exact BK253.out) Try.underlying30 rfl (by kernel_rfl)) rfl ?_
   exact ⟨_, _, by first | rfl | (simp [errW_none, errW_some] <;> rfl) | (simp [*, errW_none, errW_some] <;> rfl), by (with_reducible repeat (first | apply Kd.R_alloc | apply Kd.R_drewN | apply Kd.R_drew)); exact Kd.R_mono (Kd.R_far (p := ⟨gb253, 4, none⟩) (Kd.R_far (p := ⟨gb253, 3, none⟩) (Kd.R_far (p := ⟨gb253, 2, none⟩) (Kd.R_far (p := ⟨gb253, 1, none⟩) (Kd.R_far (p := ⟨gb253, 0, none⟩) (Kd.R_types HO260.out BK253.out (by decide)) (fun _ hk => hk.2) (.int .i64 a0)) (fun _ hk => hk.2) (.int .i64 a1_0)) (fun _ hk => hk.2) (.int .i64 a1_1)) (fun _ hk => hk.2) (.slice Ao15 y258.length co15)) (fun _ hk => hk.2) (.slice none 0 0)) (fun _ hk => trivial), by first | exact Kd.R_nil _ _ _ _ _ | exact Kd.N_nil _ _ _ _ _ | exact Kd.V_nil _ _ _ _ _ | exact Kd.Q_nil _ _ _ _ _ | exact Kd.S_nil _ _ _ _ _, pB HB⟩
  ·rw [if_neg c5] at H
   exact absurd H (by simp)
 ·rw [if_neg c4] at H
  have c4b0 : (t254 == 0) = false := beq_eq_false_iff_ne.mpr c4
  have c4b1 : (t254 != 0) = true := bne_iff_ne.mpr c4
  simp only [Option.some.injEq, Prod.mk.injEq] at H
  obtain ⟨rfl, rfl, rfl, rfl, rfl, rfl⟩ := H
  go_enter Try.func22, Try.ntmps22
  go_wp2_with (first | ((with_reducible refine gate_dst (N := 3) rfl ?_); refine box_event ?hg (N := 3) ?hd (cs := #[.int .i64 a1_0, .int .i64 a1_1, .slice A1_2 l1_2.length c1_2]) (t := 27) ?hr ?_; (case hd => rfl); (case hg => rfl); (case hr => first | (go_simp; done) | (go_simp; rfl)); intro gb252 hg w21 hbox hb; have n0_ := Aside0.mk (below_step (pB HB) hb); have n1_ := Aside0.mk (hbox); have n2_ := Aside0.mk ((by rw [hg]; exact (below_size (pB HB)) : w.heap.size ≤ gb252)); have n3_ := Aside0.mk ((by rw [hg]; exact (below_size (pB HB)) : w.heap.size ≤ gb252)); clear HB; have HB := n0_; have BK252 := n1_; have GW252 := n2_; have GE252 := n3_; clear n0_ n1_ n2_ n3_; clear hb hbox hg) | ((with_reducible refine gate_dst (N := 4) rfl ?_); refine box_event ?hg (N := 4) ?hd (cs := #[.int .i64 0, .int .i64 0, .int .i64 0, .slice none 0 0, .slice none 0 0]) (t := 30) ?hr ?_; (case hd => rfl); (case hg => rfl); (case hr => first | (go_simp; done) | (go_simp; rfl)); intro gb253 hg w22 hbox hb; have n0_ := bB BK252 hb; have n1_ := Aside0.mk (below_step (pB HB) hb); have n2_ := Aside0.mk (hbox); have n3_ := Aside0.mk ((by rw [hg]; exact (below_size (pB HB)) : w.heap.size ≤ gb253)); have n4_ := Aside0.mk ((by rw [hg]; exact (below_size (pB HB)) : w.heap.size ≤ gb253)); have n5_ := Aside0.mk ((by rw [hg]; exact Nat.ne_of_lt (blk_lt (g := gb252) (o := .cells #[.int .i64 a1_0, .int .i64 a1_1, .slice A1_2 l1_2.length c1_2] 27 (0, 0)) (by (with_reducible repeat (first | refine blk_drewN ?_ _ | refine blk_drew ?_ | refine blk_alloc ?_ _)); exact BK252.out)) : gb252 ≠ gb253)); have n6_ := Aside0.mk ((by rw [hg]; exact Nat.ne_of_gt (blk_lt (g := gb252) (o := .cells #[.int .i64 a1_0, .int .i64 a1_1, .slice A1_2 l1_2.length c1_2] 27 (0, 0)) (by (with_reducible repeat (first | refine blk_drewN ?_ _ | refine blk_drew ?_ | refine blk_alloc ?_ _)); exact BK252.out)) : gb253 ≠ gb252)); clear BK252; clear HB; have BK252 := n0_; have HB := n1_; have BK253 := n2_; have GW253 := n3_; have GE253 := n4_; have NB252_253 := n5_; have NB253_252 := n6_; clear n0_ n1_ n2_ n3_ n4_ n5_ n6_; clear hb hbox hg; have hnb23 := NB252_253.out; have hnc23 := NB253_252.out; obtain ⟨hcz24_0, hcz24_1, hcz24_2⟩ := cells3 BK252; obtain ⟨hfz24_0, hfz24_1, hfz24_2⟩ := frz3 BK252) | ((with_reducible refine gate_callee (f := 40) rfl ?_); refine goesL_ (some 9) rfl rfl Try.func40 (by kernel_rfl) rfl #[.int .i64 a0, .agg #[.int .i64 a1_0, .int .i64 a1_1, .slice A1_2 l1_2.length c1_2]] rfl (by (try simp only [List.map_toArray, List.map_cons, List.map_nil]); first | done | rfl | (simp only [List.length_drop, List.length_take]; rfl)) ?_; (with_reducible refine (insolvencyref33_checkTerms.calls a0 a1_0 a1_1 _ _ l1_2 t254 _ ?side1 ?side2 A3.out).mono ?_); (case side1 => repeat (first | exact (Kd.C_below HR1_2.out HB.out) | (with_reducible refine Kd.C_alloc ?_ _) | (with_reducible refine Kd.C_drewN ?_ _) | (with_reducible refine Kd.C_drew ?_))); (case side2 => exact HC1_2.out); rintro e w25 ⟨rfl, hb⟩; refine ⟨_, rfl, ?_⟩; have n0_ := bB BK252 hb; have n1_ := bB BK253 hb; have n2_ := Aside0.mk (below_step (pB HB) hb); clear BK252; clear BK253; clear HB; have BK252 := n0_; have BK253 := n1_; have HB := n2_; clear n0_ n1_ n2_; (try clear hb); (try clear hb2); (try clear hk); (try clear hi); obtain ⟨hcz26_0, hcz26_1, hcz26_2, hcz26_3, hcz26_4⟩ := cells5 BK253; obtain ⟨hfz26_0, hfz26_1, hfz26_2, hfz26_3, hfz26_4⟩ := frz5 BK253))
  refine bodyPost_ret (results_ct rfl _ _ gb253 30 #[.int .i64 0, .int .i64 0, .int .i64 0, .slice none 0 0, .slice none 0 0] (0, 0) _ rfl (by (with_reducible repeat (first | refine blk_drewN ?_ _ | refine blk_drew ?_ | refine blk_alloc ?_ _)); refine blk_put (cs := #[.int .i64 0, .int .i64 0, .int .i64 0, .slice none 0 0, .slice none 0 0]) ?_ 4 _ rfl; (with_reducible repeat (first | refine blk_drewN ?_ _ | refine blk_drew ?_ | refine blk_alloc ?_ _)); refine blk_put (cs := #[.int .i64 0, .int .i64 0, .int .i64 0, .slice none 0 0, .slice none 0 0]) ?_ 3 _ rfl; (with_reducible repeat (first | refine blk_drewN ?_ _ | refine blk_drew ?_ | refine blk_alloc ?_ _)); refine blk_put (cs := #[.int .i64 0, .int .i64 0, .int .i64 0, .slice none 0 0, .slice none 0 0]) ?_ 2 _ rfl; (with_reducible repeat (first | refine blk_drewN ?_ _ | refine blk_drew ?_ | refine blk_alloc ?_ _)); refine blk_put (cs := #[.int .i64 0, .int .i64 0, .int .i64 0, .slice none 0 0, .slice none 0 0]) ?_ 1 _ rfl; (with_reducible repeat (first | refine blk_drewN ?_ _ | refine blk_drew ?_ | refine blk_alloc ?_ _)); refine blk_put (cs := #[.int .i64 0, .int .i64 0, .int .i64 0, .slice none 0 0, .slice none 0 0]) ?_ 0 _ rfl; (with_reducible repeat (first | refine blk_drewN ?_ _ | refine blk_drew ?_ | refine blk_alloc ?_ _)); exact BK253.out) Try.underlying30 rfl (by kernel_rfl)) rfl ?_
  exact ⟨_, _, by first | rfl | (simp [errW_none, errW_some] <;> rfl) | (simp [*, errW_none, errW_some] <;> rfl), by first | exact Kd.R_nil _ _ _ _ _ | exact Kd.N_nil _ _ _ _ _ | exact Kd.V_nil _ _ _ _ _ | exact Kd.Q_nil _ _ _ _ _ | exact Kd.S_nil _ _ _ _ _, by first | exact Kd.R_nil _ _ _ _ _ | exact Kd.N_nil _ _ _ _ _ | exact Kd.V_nil _ _ _ _ _ | exact Kd.Q_nil _ _ _ _ _ | exact Kd.S_nil _ _ _ _ _, pB HB⟩

end Go.Proofs.Ytpfiecjacpbhkaa.D

/- New and the comparison of dockets, in the words of the plain law: what the printed functions come to, after rounds enough. -/
namespace Go.Proofs.Ytpfiecjacpbhkaa.D
open Go.RowKit Go.Proofs.YtpfiecjacpbhkaaW.PrintWords Go.Proofs.YtpfiecjacpbhkaaW.PrintLast Go.Proofs.YtpfiecjacpbhkaaW.PrintMore Hx
set_option linter.unusedVariables false
set_option linter.unusedSimpArgs false

theorem awake_ev : Ev (fun k => insolvencylaw33_awake.f k) true := Ev.of (k := 64) (fun k => insolvencylaw33_awake.mono k) (by kernel_rfl)

/-- The error of a day and of terms. -/
def ctE (day ans app : Int) (n : Nat) : Int :=
  if day < 0 ∨ 1048576 < day then 1 else if 1000 < n then 2 else if (ans < 1 ∨ 250 < ans) ∨ app < 1 ∨ 250 < app then 1 else 0
theorem checkTerms_ev (day ans app : Int) (hs : List Int) : Ev (fun k => docket_checkTerms.f k day ans app hs) (ctE day ans app hs.length) := by
  refine ⟨1, fun k hk => ?_⟩
  obtain ⟨k, rfl⟩ : ∃ m, k = m + 1 := ⟨k - 1, by omega⟩
  show docket_checkTerms.f (k + 1) day ans app hs = _
  unfold docket_checkTerms.f docket_checkTerms.j0 ctE
  repeat' split
  all_goals first | rfl | (exfalso; simp at *; done) | (exfalso; simp at *; omega)
theorem refCheckTerms_some (day ans app : Int) (hs : List Int) : insolvencyref33_checkTerms.f day ans app hs = some (ctE day ans app hs.length) := by
  unfold insolvencyref33_checkTerms.f insolvencyref33_day.f ctE
  by_cases h0 : day ≥ 0
  · rw [if_pos h0, Option.bind_some]
    repeat' split
    all_goals first | rfl | (exfalso; simp at *; done) | (exfalso; simp at *; omega)
  · rw [if_neg h0, Option.bind_some, if_neg (by simp), if_pos (by omega)]
theorem ctE_len {day ans app : Int} {n : Nat} (h : ctE day ans app n = 0) : n ≤ 1000 := by
  unfold ctE at h
  split at h
  · cases h
  · split at h
    · cases h
    · omega

theorem cloneInts_some (l : List Int) (h : l.length < 17592186044416) : cloneInts.f l = some l := by
  unfold cloneInts.f
  rw [Option.bind_some, if_pos (by simpa using h), List.nil_append]

abbrev Dn := Int × Int × Int × List Int × List S50 × Int
def newV (day ans app : Int) (hs : List Int) : Dn := if ctE day ans app hs.length = 0 then (day, ans, app, hs, [], 0) else (0, 0, 0, [], [], ctE day ans app hs.length)
theorem newV_ok {day ans app : Int} {hs : List Int} (h : ctE day ans app hs.length = 0) : newV day ans app hs = (day, ans, app, hs, [], 0) := if_pos h
theorem newV_err {day ans app : Int} {hs : List Int} (h : ¬ ctE day ans app hs.length = 0) : newV day ans app hs = (0, 0, 0, [], [], ctE day ans app hs.length) := if_neg h
theorem new_ev (day ans app : Int) (hs : List Int) : Ev (fun k => docket_New.f k day ans app hs) (newV day ans app hs) := by
  unfold docket_New.f
  refine Ev.bind (checkTerms_ev day ans app hs) ?_
  by_cases h : ctE day ans app hs.length = 0
  · rw [newV_ok h]
    refine ev_if h (ev_then (a := (ans, app, hs)) ?_ (Ev.now _))
    unfold docket_copyTerms.f
    rw [cloneInts_some hs (by have := ctE_len h; omega)]
    rfl
  · rw [newV_err h]
    exact ev_else h (Ev.now _)
theorem refNew_some (day ans app : Int) (hs : List Int) : insolvencyref33_NewDocket.f day ans app hs = some (newV day ans app hs) := by
  unfold insolvencyref33_NewDocket.f
  rw [refCheckTerms_some, Option.bind_some]
  by_cases h : ctE day ans app hs.length = 0
  · rw [newV_ok h, if_pos h, Option.bind_some, if_pos (by have := ctE_len h; simp; omega), List.nil_append]
  · rw [newV_err h, if_neg h]

/-! ### comparison -/
theorem ints_loop (l : List Int) (hl : l.length < 4611686018427387904) : ∀ (n i : Nat), i ≤ l.length → l.length - i = n → Ev (fun k => insolvencyref1_SameInts.l0 k l l (i : Int)) true
  | 0, i, h1, h2 => by
    refine Ev.step (fun k => rfl) (ev_else ?_ (Ev.now _))
    omega
  | n + 1, i, h1, h2 => by
    refine Ev.step (fun k => rfl) (ev_if (by omega) (ev_if (by omega) (ev_if (by omega) (ev_if rfl ?_))))
    have e : wrap64 ((i : Int) + 1) = ((i + 1 : Nat) : Int) := by rw [w64 _ (by omega) (by omega)]; omega
    rw [e]
    exact ints_loop l hl n (i + 1) (by omega) (by omega)
theorem sameInts_ev (l : List Int) (hl : l.length < 4611686018427387904) : Ev (fun k => insolvencyref1_SameInts.f k l l) true :=
  ev_if rfl (ints_loop l hl l.length 0 (Nat.zero_le _) (by omega))
theorem dock_loop (d a p : Int) (hs : List Int) (l : List S50) (hl : l.length < 4611686018427387904) : ∀ (n i : Nat), i ≤ l.length → l.length - i = n → Ev (fun k => insolvencyref33_SameDocket.l0 k (i : Int) d a p hs l d a p hs l) true
  | 0, i, h1, h2 => by
    refine Ev.step (fun k => rfl) (ev_else ?_ (Ev.now _))
    omega
  | n + 1, i, h1, h2 => by
    refine Ev.step (fun k => rfl) (ev_if (by omega) (ev_if (by omega) (ev_if (by omega) (ev_else (by simp) ?_))))
    have e : wrap64 ((i : Int) + 1) = ((i + 1 : Nat) : Int) := by rw [w64 _ (by omega) (by omega)]; omega
    rw [e]
    exact dock_loop d a p hs l hl n (i + 1) (by omega) (by omega)
theorem sameDocket_ev (d a p : Int) (hs : List Int) (l : List S50) (hh : hs.length < 4611686018427387904) (hl : l.length < 4611686018427387904) : Ev (fun k => insolvencyref33_SameDocket.f k d a p hs l d a p hs l) true := by
  unfold insolvencyref33_SameDocket.f
  refine ev_if rfl (ev_if rfl (ev_if rfl (Ev.bind (sameInts_ev hs hh) (ev_if rfl ?_))))
  refine Ev.step (fun k => rfl) (ev_else (by simp) ?_)
  exact dock_loop d a p hs l hl l.length 0 (Nat.zero_le _) (by omega)
end Go.Proofs.Ytpfiecjacpbhkaa.D

/- Check and Advance of dockets, in the words of the plain law. -/
namespace Go.Proofs.Ytpfiecjacpbhkaa.D
open Go.RowKit Go.Proofs.YtpfiecjacpbhkaaW.PrintWords Go.Proofs.YtpfiecjacpbhkaaW.PrintLast Go.Proofs.YtpfiecjacpbhkaaW.PrintMore Hx
set_option linter.unusedVariables false
set_option linter.unusedSimpArgs false

def isRun (m : S50) : Bool := m.f1 == 2 || m.f1 == 4
def soundP (day : Int) (m : S50) : Prop :=
  (1 ≤ m.f1 ∧ m.f1 ≤ 6 ∧ 0 ≤ m.f3 ∧ m.f3 < 4) ∧ ((m.f1 = 2 ∨ m.f1 = 4) ∧ day ≤ m.f2 ∧ m.f2 ≤ 1048576 ∨ ¬ (m.f1 = 2 ∨ m.f1 = 4) ∧ m.f2 = 0) ∧ (m.f1 ≤ 3 → m.f3 = 0) ∧ (m.f4 = true → m.f1 = 6 ∧ m.f3 = 0)
instance (day : Int) (m : S50) : Decidable (soundP day m) := by unfold soundP; infer_instance

theorem sound_ev (day : Int) (m : S50) : Ev (fun k => docket_sound.f k m.f0 m.f1 m.f2 m.f3 m.f4 day) (decide (soundP day m)) := by
  refine ⟨3, fun k hk => ?_⟩
  obtain ⟨k, rfl⟩ : ∃ m, k = m + 3 := ⟨k - 3, by omega⟩
  obtain ⟨f0, f1, f2, f3, f4⟩ := m
  show docket_sound.f (k + 3) f0 f1 f2 f3 f4 day = some (decide (soundP day ⟨f0, f1, f2, f3, f4⟩))
  by_cases hs : 1 ≤ f1 ∧ f1 ≤ 6 ∧ 0 ≤ f3 ∧ f3 < 4
  · have e1 : f1 = 1 ∨ f1 = 2 ∨ f1 = 3 ∨ f1 = 4 ∨ f1 = 5 ∨ f1 = 6 := by omega
    have a1 : ¬ f3 < 0 := by omega
    have a2 : ¬ 4 ≤ f3 := by omega
    have a3 : 0 ≤ f3 := by omega
    have a4 : f3 < 4 := by omega
    by_cases b1 : f2 < day <;> by_cases b2 : 1048576 < f2 <;> by_cases b3 : f2 = 0 <;> by_cases b4 : f3 = 0 <;> cases f4 <;> rcases e1 with rfl | rfl | rfl | rfl | rfl | rfl
    all_goals try subst b3
    all_goals try subst b4
    all_goals first | (simp [docket_sound.f, docket_sound.j0, docket_sound.j1, docket_sound.j2, docket_running.f, soundP, a1, a2, a3, a4, *]; done) | (simp [docket_sound.f, docket_sound.j0, docket_sound.j1, docket_sound.j2, docket_running.f, soundP, a1, a2, a3, a4, *]; omega)
  · have hs2 : ¬ soundP day ⟨f0, f1, f2, f3, f4⟩ := fun h => hs h.1
    rw [decide_eq_false hs2]
    have key : ∀ b, docket_sound.j0 (k + 3) day b f0 f1 f2 f3 f4 = some false := by
      intro b
      simp only [docket_sound.j0]
      by_cases h1 : f1 < 1
      · rw [if_pos h1]
        rfl
      · rw [if_neg h1]
        by_cases h2 : f1 > 6
        · rw [if_pos h2]
          rfl
        · rw [if_neg h2]
          by_cases h3 : f3 < 0
          · rw [if_pos h3]
            rfl
          · rw [if_neg h3, decide_eq_true (show f3 ≥ 4 by omega)]
            rfl
    unfold docket_sound.f
    rw [key, key]
    simp

/-! ### Check -/
theorem fnd_any (x : Int) : ∀ (l : List S50) (i : Nat), (0 ≤ fnd x l i) = (l.any (fun m => m.f0 == x) = true)
  | [], i => by simp [fnd]
  | y :: r, i => by
    unfold fnd
    by_cases h : y.f0 = x
    · rw [if_pos h]
      simp [h]
    · rw [if_neg h, fnd_any x r (i + 1)]
      simp [h]
def chkL (day : Int) : List S50 → List S50 → Int
  | _, [] => 0
  | pre, m :: r => if m.f0 < 0 then 1 else if pre.any (fun x => x.f0 == m.f0) = true then 12 else if soundP day m then chkL day (pre ++ [m]) r else 1
def chkV (day ans app : Int) (hs : List Int) (ms : List S50) : Int := if ctE day ans app hs.length = 0 then if 32 < ms.length then 2 else chkL day [] ms else ctE day ans app hs.length
theorem rdM {ms : List S50} {i : Nat} (h : i < ms.length) : rd_T50 ms (i : Int) = ms[i] := by
  unfold rd_T50
  rw [Int.toNat_natCast, List.getD_eq_getElem?_getD, List.getElem?_eq_getElem h]
  rfl
theorem find_some (l : List S50) (x : Int) (h : l.length < 4611686018427387904) : docket_find.f l x = some (fnd x l 0) := by unfold docket_find.f; rw [if_pos h]
theorem wn (i n : Nat) (h : i < n) (hn : n < 4611686018427387904) : wrap64 ((i : Int) + 1) = ((i + 1 : Nat) : Int) := by rw [w64 _ (by omega) (by omega)]; omega
theorem check_loop (day ans app : Int) (hs : List Int) (ms : List S50) (hl : ms.length < 4611686018427387904) : ∀ (n i : Nat), i ≤ ms.length → ms.length - i = n →
    Ev (fun k => docket_Check.l0 k ms (ms.length : Int) (i : Int) day ans app hs ms) (chkL day (ms.take i) (ms.drop i))
  | 0, i, h1, h2 => by
    obtain rfl : i = ms.length := by omega
    rw [List.drop_length, chkL]
    exact Ev.step (fun k => rfl) (ev_else (by omega) (Ev.now _))
  | n + 1, i, h1, h2 => by
    have hi : i < ms.length := by omega
    rw [List.drop_eq_getElem_cons hi, chkL]
    refine Ev.step (fun k => rfl) (ev_if (by omega) (ev_if (by omega) (ev_if (by omega) ?_)))
    rw [rdM hi, Int.toNat_natCast]
    by_cases h3 : ms[i].f0 < 0
    · rw [if_pos h3]
      exact ev_if h3 (Ev.now _)
    rw [if_neg h3]
    refine ev_else h3 (ev_if (by omega) (ev_then (find_some _ _ (by rw [List.length_take]; omega)) ?_))
    by_cases h4 : (ms.take i).any (fun x => x.f0 == ms[i].f0) = true
    · rw [if_pos h4]
      exact ev_if (by rw [ge_iff_le, fnd_any]; exact h4) (Ev.now _)
    rw [if_neg h4]
    refine ev_else (by rw [ge_iff_le, fnd_any]; exact h4) (Ev.bind (sound_ev day ms[i]) ?_)
    by_cases h5 : soundP day ms[i]
    · rw [if_pos h5]
      refine ev_if (decide_eq_true h5) ?_
      rw [wn i _ hi hl, List.take_append_getElem hi]
      exact check_loop day ans app hs ms hl n (i + 1) (by omega) (by omega)
    · rw [if_neg h5]
      exact ev_else (by simpa using h5) (Ev.now _)
theorem check_ev (day ans app : Int) (hs : List Int) (ms : List S50) : Ev (fun k => docket_Check.f k day ans app hs ms) (chkV day ans app hs ms) := by
  unfold docket_Check.f chkV
  refine Ev.bind (checkTerms_ev day ans app hs) ?_
  by_cases h : ctE day ans app hs.length = 0
  · rw [if_pos h]
    refine ev_if h ?_
    by_cases h2 : 32 < ms.length
    · rw [if_pos h2]
      exact ev_if (by omega) (Ev.now _)
    · rw [if_neg h2]
      exact ev_else (by omega) (check_loop day ans app hs ms (by omega) ms.length 0 (Nat.zero_le _) (by omega))
  · rw [if_neg h]
    exact ev_else h (Ev.now _)

/-- A docket that Check accepts. -/
theorem chkL_ok (day : Int) : ∀ (r pre : List S50), chkL day pre r = 0 ↔ ((∀ m ∈ r, 0 ≤ m.f0 ∧ soundP day m) ∧ (r.map (·.f0)).Nodup ∧ ∀ m ∈ r, ∀ x ∈ pre, x.f0 ≠ m.f0)
  | [], pre => by simp [chkL]
  | m :: r, pre => by
    unfold chkL
    by_cases h1 : m.f0 < 0
    · rw [if_pos h1]
      constructor
      · intro h; cases h
      · rintro ⟨h, _, _⟩
        have := h m (by simp)
        omega
    rw [if_neg h1]
    by_cases h2 : pre.any (fun x => x.f0 == m.f0) = true
    · rw [if_pos h2]
      constructor
      · intro h; cases h
      · rintro ⟨_, _, h⟩
        obtain ⟨x, hx, he⟩ := List.any_eq_true.1 h2
        exact absurd (by simpa using he) (h m (by simp) x hx)
    rw [if_neg h2]
    have hp : ∀ x ∈ pre, x.f0 ≠ m.f0 := fun x hx he => h2 (List.any_eq_true.2 ⟨x, hx, by simpa using he⟩)
    by_cases h3 : soundP day m
    · rw [if_pos h3, chkL_ok day r (pre ++ [m])]
      constructor
      · rintro ⟨a, b, c⟩
        refine ⟨fun x hx => ?_, ?_, fun x hx y hy => ?_⟩
        · rcases List.mem_cons.1 hx with rfl | hx
          · exact ⟨by omega, h3⟩
          · exact a x hx
        · rw [List.map_cons, List.nodup_cons]
          refine ⟨fun hm => ?_, b⟩
          obtain ⟨x, hx, he⟩ := List.mem_map.1 hm
          exact c x hx m (by simp) he.symm
        · rcases List.mem_cons.1 hx with rfl | hx
          · exact hp y hy
          · exact c x hx y (by simp [hy])
      · rintro ⟨a, b, c⟩
        rw [List.map_cons, List.nodup_cons] at b
        refine ⟨fun x hx => a x (by simp [hx]), b.2, fun x hx y hy => ?_⟩
        rcases List.mem_append.1 hy with hy | hy
        · exact c x (by simp [hx]) y hy
        · obtain rfl : y = m := by simpa using hy
          exact fun he => b.1 (List.mem_map.2 ⟨x, hx, he.symm⟩)
    · rw [if_neg h3]
      constructor
      · intro h; cases h
      · rintro ⟨a, _, _⟩
        exact absurd (a m (by simp)).2 h3

/-! ### Advance -/
def lapses (day : Int) (m : S50) : Prop := (m.f1 = 2 ∨ m.f1 = 4) ∧ m.f2 < day
instance (day : Int) (m : S50) : Decidable (lapses day m) := by unfold lapses; infer_instance
def lapM (day : Int) (m : S50) : S50 := if lapses day m then ⟨m.f0, 6, 0, m.f3, m.f1 == 2⟩ else m
def lapR (day : Int) (m : S50) : Option S52 := if lapses day m then some ⟨m.f0, wrap64 (m.f2 + 1), m.f3⟩ else none
theorem running_some (a b c d : Int) (e : Bool) : docket_running.f a b c d e = some (b == 2 || b == 4) := by
  unfold docket_running.f
  by_cases h : b = 2
  · simp [h]
  · rw [if_neg h]
    simp [h]
theorem rd_mid (done r : List S50) (m : S50) : rd_T50 (done ++ m :: r) (done.length : Int) = m := by
  rw [rdM (by simp)]
  simp
theorem set_mid (done r : List S50) (m m' : S50) : (done ++ m :: r).set (done.length : Int).toNat m' = done ++ m' :: r := by
  rw [Int.toNat_natCast, List.set_append_right _ _ (Nat.le_refl _)]
  simp
theorem adv_loop (day ans app : Int) (hs : List Int) : ∀ (rest done : List S50) (acc : List S52) (n : Int), n = ((done ++ rest).length : Int) → (done ++ rest).length < 1000000 → (acc ++ rest.filterMap (lapR day)).length ≤ 12 →
    Ev (fun k => docket_advance.l0 k day acc n (done.length : Int) day ans app hs (done ++ rest)) (day, ans, app, hs, done ++ rest.map (lapM day), sortR (acc ++ rest.filterMap (lapR day)))
  | [], done, acc, n, hn, h1, h2 => by
    subst hn
    refine Ev.step (fun k => rfl) (ev_else (by simp) (ev_then (a := sortR acc) ?_ ?_))
    · unfold sortRulings.f
      rw [if_pos (by simpa using h2)]
    · simp only [List.filterMap_nil, List.append_nil, List.map_nil]
      exact Ev.now _
  | m :: r, done, acc, n, hn, h1, h2 => by
    subst hn
    have hlen : (done ++ m :: r).length = done.length + r.length + 1 := by simp; omega
    refine Ev.step (fun k => rfl) (ev_if (by rw [hlen]; omega) (ev_if (by omega) (ev_if (by rw [hlen]; omega) ?_)))
    rw [rd_mid]
    refine ev_then (running_some _ _ _ _ _) ?_
    have ew : wrap64 ((done.length : Int) + 1) = ((done.length + 1 : Nat) : Int) := wn _ _ (Nat.lt_succ_self _) (by omega)
    have stay : ¬ lapses day m → Ev (fun k => docket_advance.l0 k day acc ((done ++ m :: r).length : Int) (wrap64 ((done.length : Int) + 1)) day ans app hs (done ++ m :: r)) (day, ans, app, hs, done ++ (m :: r).map (lapM day), sortR (acc ++ (m :: r).filterMap (lapR day))) := by
      intro hn
      have ih := adv_loop day ans app hs r (done ++ [m]) acc ((done ++ m :: r).length : Int) (by simp) (by simpa using h1) (by
        have e : lapR day m = none := if_neg hn
        rw [List.filterMap_cons, e] at h2
        exact h2)
      have e1 : lapR day m = none := if_neg hn
      have e2 : lapM day m = m := if_neg hn
      rw [List.filterMap_cons, e1, List.map_cons, e2, ew]
      simpa using ih
    by_cases hr : m.f1 = 2 ∨ m.f1 = 4
    · refine ev_if (by simpa using hr) ?_
      by_cases hd : m.f2 ≥ day
      · exact ev_if hd (stay (fun h => by have := h.2; omega))
      · have hlap : lapses day m := ⟨hr, by omega⟩
        have e1 : lapR day m = some ⟨m.f0, wrap64 (m.f2 + 1), m.f3⟩ := if_pos hlap
        have e2 : lapM day m = ⟨m.f0, 6, 0, m.f3, m.f1 == 2⟩ := if_pos hlap
        rw [List.filterMap_cons, e1] at h2 ⊢
        rw [List.map_cons, e2]
        refine ev_else hd (ev_if (by simp at h2; omega) (ev_then rfl (ev_then rfl ?_)))
        rw [set_mid, rd_mid, set_mid, rd_mid, set_mid, ew]
        have ih := adv_loop day ans app hs r (done ++ [⟨m.f0, 6, 0, m.f3, m.f1 == 2⟩]) (acc ++ [⟨m.f0, wrap64 (m.f2 + 1), m.f3⟩]) ((done ++ m :: r).length : Int) (by simp) (by simpa using h1) (by simpa using h2)
        simpa using ih
    · exact ev_else (by simpa using hr) (stay (fun h => hr h.1))

theorem cloneMatters_some (l : List S50) (h : l.length < 1000000) : cloneMatters.f l = some l := by
  unfold cloneMatters.f
  rw [Option.bind_some, if_pos (by simp; omega), List.nil_append]
theorem advance_ev (d day ans app : Int) (hs : List Int) (ms : List S50) (h1 : hs.length < 1000000) (h2 : ms.length < 1000000) (h3 : (ms.filterMap (lapR day)).length ≤ 12) :
    Ev (fun k => docket_advance.f k d ans app hs ms day) (day, ans, app, hs, ms.map (lapM day), sortR (ms.filterMap (lapR day))) := by
  unfold docket_advance.f
  refine ev_then (a := (ans, app, hs)) (by unfold docket_copyTerms.f; rw [cloneInts_some hs (by omega)]; rfl) (ev_then (cloneMatters_some ms h2) ?_)
  exact adv_loop day ans app hs ms [] [] (ms.length : Int) (by simp) (by simpa using h2) (by simpa using h3)

/-- What Advance answers. -/
def advV (d ans app : Int) (hs : List Int) (ms : List S50) (day : Int) : Dk :=
  if chkV d ans app hs ms = 0 then if day < 0 ∨ 1048576 < day then dkErr 1 else if day < d then dkErr 15 else (day, ans, app, hs, ms.map (lapM day), sortR (ms.filterMap (lapR day)), 0) else dkErr (chkV d ans app hs ms)
theorem chkV_ok {d ans app : Int} {hs : List Int} {ms : List S50} (h : chkV d ans app hs ms = 0) : ctE d ans app hs.length = 0 ∧ hs.length ≤ 1000 ∧ ms.length ≤ 32 ∧ chkL d [] ms = 0 := by
  unfold chkV at h
  by_cases h1 : ctE d ans app hs.length = 0
  · rw [if_pos h1] at h
    by_cases h2 : 32 < ms.length
    · rw [if_pos h2] at h; cases h
    · rw [if_neg h2] at h
      exact ⟨h1, ctE_len h1, by omega, h⟩
  · rw [if_neg h1] at h
    exact absurd h h1
theorem advV_ev (d ans app : Int) (hs : List Int) (ms : List S50) (day : Int) (h : (ms.filterMap (lapR day)).length ≤ 12) : Ev (fun k => docket_Advance.f k d ans app hs ms day) (advV d ans app hs ms day) := by
  unfold docket_Advance.f
  refine Ev.bind (check_ev d ans app hs ms) ?_
  by_cases hc : chkV d ans app hs ms = 0
  · refine ev_if hc ?_
    obtain ⟨c1, c2, c3, c4⟩ := chkV_ok hc
    by_cases h1 : day < 0
    · have e : advV d ans app hs ms day = dkErr 1 := by unfold advV; rw [if_pos hc, if_pos (.inl h1)]
      rw [e]
      exact ev_if h1 ⟨1, fun k hk => by obtain ⟨k, rfl⟩ : ∃ m, k = m + 1 := ⟨k - 1, by omega⟩; rfl⟩
    · refine ev_else h1 ?_
      by_cases h2 : 1048576 < day
      · have e : advV d ans app hs ms day = dkErr 1 := by unfold advV; rw [if_pos hc, if_pos (.inr h2)]
        rw [e]
        exact Ev.step (fun k => rfl) (ev_if (by simpa using h2) (Ev.now _))
      · refine Ev.step (fun k => rfl) (ev_else (by simpa using h2) ?_)
        by_cases h3 : day < d
        · have e : advV d ans app hs ms day = dkErr 15 := by unfold advV; rw [if_pos hc, if_neg (by omega), if_pos h3]
          rw [e]
          exact ev_if h3 (Ev.now _)
        · have e : advV d ans app hs ms day = (day, ans, app, hs, ms.map (lapM day), sortR (ms.filterMap (lapR day)), 0) := by unfold advV; rw [if_pos hc, if_neg (by omega), if_neg h3]
          rw [e]
          exact ev_else h3 (Ev.bind (advance_ev d day ans app hs ms (by omega) (by omega) h) (Ev.now _))
  · have e : advV d ans app hs ms day = dkErr (chkV d ans app hs ms) := by unfold advV; rw [if_neg hc]
    rw [e]
    exact ev_else hc (Ev.now _)
end Go.Proofs.Ytpfiecjacpbhkaa.D

/- File of dockets, in the words of the plain law; what stays true of a docket and its rulings. -/
namespace Go.Proofs.Ytpfiecjacpbhkaa.D
open Go.RowKit Go.Proofs.YtpfiecjacpbhkaaW.PrintWords Go.Proofs.YtpfiecjacpbhkaaW.PrintLast Go.Proofs.YtpfiecjacpbhkaaW.PrintMore Hx Hm Go.Shelf Go.Sort
set_option linter.unusedVariables false
set_option linter.unusedSimpArgs false

/-! ### File, with Add's answer ad -/
def chgV (ad : Int × Int) (day ans app : Int) (hs : List Int) (ms : List S50) (rl : List S52) (kind at_ id opt : Int) : Dk :=
  if ad.2 ≠ 0 then dkErr ad.2 else (day, ans, app, hs, ms.set (fnd id ms 0).toNat (chgM (rd_T50 ms (fnd id ms 0)) kind ad.1 opt), if kind = 6 then rl ++ [⟨id, at_, opt⟩] else rl, 0)
def tailV (ad : Int × Int) (day ans app : Int) (hs : List Int) (ms : List S50) (rl : List S52) (kind at_ id opt : Int) : Dk :=
  if kind < 1 ∨ 6 < kind then dkErr 1
  else if kind = 1 then if (openF ms id).2 = 0 then (day, ans, app, hs, (openF ms id).1, rl, 0) else dkErr (openF ms id).2
  else if fnd id ms 0 < 0 then dkErr 11
  else if (rd_T50 ms (fnd id ms 0)).f1 ≠ kind - 1 then dkErr 13
  else if (kind = 4 ∨ kind = 6) ∧ (opt < 0 ∨ 4 ≤ opt) then dkErr 41
  else chgV (if kind = 2 ∨ kind = 4 then ad else (0, 0)) day ans app hs ms rl kind at_ id opt
def fileV (ad : Int × Int) (d ans app : Int) (hs : List Int) (ms : List S50) (kind at_ id opt : Int) : Dk :=
  if (advV d ans app hs ms at_).2.2.2.2.2.2 = 0 then tailV ad at_ ans app hs (ms.map (lapM at_)) (sortR (ms.filterMap (lapR at_))) kind at_ id opt else dkErr (advV d ans app hs ms at_).2.2.2.2.2.2

theorem ev_ite {α : Type} {c : Prop} [Decidable c] {g f : Nat → Option α} {r1 r2 : α} (h1 : c → Ev g r1) (h2 : ¬ c → Ev f r2) : Ev (fun n => if c then g n else f n) (if c then r1 else r2) := by
  by_cases h : c
  · rw [if_pos h]; exact ev_if h (h1 h)
  · rw [if_neg h]; exact ev_else h (h2 h)
theorem tail_ev (ad : Int × Int) (day ans app : Int) (hs : List Int) (ms : List S50) (rl : List S52) (kind at_ id opt : Int) (h1 : ms.length < 1000000) (h2 : rl.length < 1000000)
    (ha : Ev (fun k => F.calendar_Add.f k at_ (if kind = 2 then ans else app) hs) ad) : Ev (fun k => docket_File.tail k day ans app hs ms rl kind at_ id opt) (tailV ad day ans app hs ms rl kind at_ id opt) := by
  unfold docket_File.tail tailV
  refine ev_ite (fun _ => Ev.now _) (fun _ => ev_if (by omega) (ev_ite (fun _ => ev_ite (fun _ => Ev.now _) (fun _ => Ev.now _)) (fun _ => ev_ite (fun _ => Ev.now _) (fun _ => ev_ite (fun _ => Ev.now _) (fun _ => ev_ite (fun _ => Ev.now _) (fun _ => ?_))))))
  refine Ev.bind (a := if kind = 2 ∨ kind = 4 then ad else (0, 0)) (ev_ite (fun _ => ha) (fun _ => Ev.now _)) ?_
  generalize (if kind = 2 ∨ kind = 4 then ad else (0, 0)) = b
  unfold chgV
  refine ev_ite (fun _ => Ev.now _) (fun _ => ?_)
  by_cases c8 : kind = 6
  · simp only [if_pos c8]
    exact ev_if (by omega) (Ev.now _)
  · simp only [if_neg c8]
    exact Ev.now _

theorem advV_cases (d ans app : Int) (hs : List Int) (ms : List S50) (day : Int) : (advV d ans app hs ms day).2.2.2.2.2.2 = 0 ∧ advV d ans app hs ms day = (day, ans, app, hs, ms.map (lapM day), sortR (ms.filterMap (lapR day)), 0) ∧ chkV d ans app hs ms = 0 ∧ 0 ≤ day ∧ day ≤ 1048576 ∧ d ≤ day ∨
    (advV d ans app hs ms day).2.2.2.2.2.2 ≠ 0 ∧ advV d ans app hs ms day = dkErr (advV d ans app hs ms day).2.2.2.2.2.2 := by
  unfold advV
  by_cases c1 : chkV d ans app hs ms = 0
  · rw [if_pos c1]
    by_cases c2 : day < 0 ∨ 1048576 < day
    · rw [if_pos c2]; exact .inr ⟨by decide, rfl⟩
    · rw [if_neg c2]
      by_cases c3 : day < d
      · rw [if_pos c3]; exact .inr ⟨by decide, rfl⟩
      · rw [if_neg c3]; exact .inl ⟨rfl, rfl, c1, by omega, by omega, by omega⟩
  · rw [if_neg c1]; exact .inr ⟨c1, rfl⟩

theorem file_ev (ad : Int × Int) (d ans app : Int) (hs : List Int) (ms : List S50) (kind at_ id opt : Int) (h : ms.length ≤ 12) (ha : Ev (fun k => F.calendar_Add.f k at_ (if kind = 2 then ans else app) hs) ad) :
    Ev (fun k => docket_File.f k d ans app hs ms kind at_ id opt) (fileV ad d ans app hs ms kind at_ id opt) := by
  have hl : (ms.filterMap (lapR at_)).length ≤ 12 := Nat.le_trans (List.length_filterMap_le _ _) h
  unfold docket_File.f fileV
  refine Ev.bind (advV_ev d ans app hs ms at_ hl) ?_
  rcases advV_cases d ans app hs ms at_ with ⟨e0, e1, -⟩ | ⟨e0, e1⟩
  · rw [if_pos e0]
    refine ev_if e0 ?_
    rw [e1]
    exact tail_ev ad at_ ans app hs _ _ kind at_ id opt (by simp; omega) (by rw [ins_size]; omega) ha
  · rw [if_neg e0]
    exact ev_else e0 (Ev.now _)

/-! ### what stays true -/
def rKey (r : S52) : Int × Int := (r.f0, r.f2)
def mKey (m : S50) : Int × Int := (m.f0, m.f3)
def isFin (m : S50) : Bool := m.f1 == 6
structure Inv (d ans app : Int) (hs : List Int) (ms : List S50) (all : List S52) : Prop where
  ct : ctE d ans app hs.length = 0
  ok : ∀ m ∈ ms, 0 ≤ m.f0 ∧ m.f0 < 4 ∧ soundP d m
  nd : (ms.map (·.f0)).Nodup
  pm : (all.map rKey).Perm ((ms.filter isFin).map mKey)
  rd : ∀ r ∈ all, r.f1 ≤ d

theorem four (l : List Int) (n : Nat) (h : l.Nodup) (hb : ∀ x ∈ l, 0 ≤ x ∧ x < (n : Int)) : l.length ≤ n := by
  induction n generalizing l with
  | zero =>
    cases l with
    | nil => simp
    | cons a l =>
      have := hb a (by simp)
      omega
  | succ n ih =>
    have h1 : (l.erase (n : Int)).length ≤ n := by
      refine ih _ (h.erase _) (fun x hx => ?_)
      have h2 := hb x (List.mem_of_mem_erase hx)
      have h3 : x ≠ (n : Int) := fun e => by subst e; exact (List.Nodup.not_mem_erase h) hx
      omega
    have h4 := List.length_erase_le (a := (n : Int)) (l := l)
    have h5 : l.length ≤ (l.erase (n : Int)).length + 1 := by
      rw [List.length_erase]
      split <;> omega
    omega
theorem Inv.len {d ans app : Int} {hs : List Int} {ms : List S50} {all : List S52} (h : Inv d ans app hs ms all) : ms.length ≤ 4 := by
  have := four (ms.map (·.f0)) 4 h.nd (fun x hx => by
    obtain ⟨m, hm, rfl⟩ := List.mem_map.1 hx
    have := h.ok m hm
    exact ⟨this.1, this.2.1⟩)
  simpa using this
theorem Inv.chk {d ans app : Int} {hs : List Int} {ms : List S50} {all : List S52} (h : Inv d ans app hs ms all) : chkV d ans app hs ms = 0 := by
  unfold chkV
  have hl := h.len
  rw [if_pos h.ct, if_neg (by omega), chkL_ok]
  exact ⟨fun m hm => ⟨(h.ok m hm).1, (h.ok m hm).2.2⟩, h.nd, fun m hm x hx => by cases hx⟩
theorem Inv.all_len {d ans app : Int} {hs : List Int} {ms : List S50} {all : List S52} (h : Inv d ans app hs ms all) : all.length ≤ 4 := by
  have h1 := h.pm.length_eq
  rw [List.length_map, List.length_map] at h1
  have h2 := List.length_filter_le isFin ms
  have := h.len
  omega
theorem sort_perm (l : List S52) : (sortR l).Perm l := by
  have h := (Sort.insertionSort_holds (lt := ltOf rulCmp) rul_swo l.toArray 0 l.length (Nat.zero_le _) (by simp)).1
  unfold sortR
  have h1 := h.2.2
  have h2 : (Sort.insertionSort (ltOf rulCmp) l.toArray 0 l.length).size = l.length := by simpa using h.1
  generalize Sort.insertionSort (ltOf rulCmp) l.toArray 0 l.length = S at *
  have h3 : S.extract 0 l.length = S := by rw [← h2]; exact Array.extract_size
  rw [h3] at h1
  simpa using h1

theorem lap_perm (day : Int) : ∀ ms : List S50, (((ms.filter isFin).map mKey) ++ ((ms.filterMap (lapR day)).map rKey)).Perm (((ms.map (lapM day)).filter isFin).map mKey)
  | [] => by simp
  | m :: r => by
    have ih := lap_perm day r
    by_cases h : lapses day m
    · have e1 : lapR day m = some ⟨m.f0, wrap64 (m.f2 + 1), m.f3⟩ := if_pos h
      have e2 : lapM day m = ⟨m.f0, 6, 0, m.f3, m.f1 == 2⟩ := if_pos h
      have e3 : isFin m = false := by unfold isFin; have := h.1; simp; omega
      have g1 : (m :: r).filter isFin = r.filter isFin := List.filter_cons_of_neg (by simp [e3])
      have g2 : (m :: r).filterMap (lapR day) = ⟨m.f0, wrap64 (m.f2 + 1), m.f3⟩ :: r.filterMap (lapR day) := by rw [List.filterMap_cons, e1]
      have g3 : ((m :: r).map (lapM day)).filter isFin = ⟨m.f0, 6, 0, m.f3, m.f1 == 2⟩ :: (r.map (lapM day)).filter isFin := by rw [List.map_cons, e2, List.filter_cons_of_pos (by rfl)]
      rw [g1, g2, g3, List.map_cons, List.map_cons]
      refine List.perm_middle.trans ?_
      exact List.Perm.cons _ ih
    · have e1 : lapR day m = none := if_neg h
      have e2 : lapM day m = m := if_neg h
      have g2 : (m :: r).filterMap (lapR day) = r.filterMap (lapR day) := by rw [List.filterMap_cons, e1]
      have g4 : (m :: r).map (lapM day) = m :: r.map (lapM day) := by rw [List.map_cons, e2]
      rw [g2, g4]
      by_cases hf : isFin m = true
      · rw [List.filter_cons_of_pos hf, List.filter_cons_of_pos hf, List.map_cons, List.map_cons, List.cons_append]
        exact List.Perm.cons _ ih
      · rw [List.filter_cons_of_neg hf, List.filter_cons_of_neg hf]
        exact ih
theorem lapM_id (day : Int) (m : S50) : (lapM day m).f0 = m.f0 := by unfold lapM; split <;> rfl
theorem lap_sound {d day : Int} {m : S50} (hd : d ≤ day) (h : soundP d m) : soundP day (lapM day m) := by
  unfold lapM
  by_cases hl : lapses day m
  · rw [if_pos hl]
    obtain ⟨h1, h2, h3, h4⟩ := h
    refine ⟨⟨(by decide : (1 : Int) ≤ 6), (by decide : (6 : Int) ≤ 6), h1.2.2.1, h1.2.2.2⟩, .inr ⟨(by decide : ¬ ((6 : Int) = 2 ∨ (6 : Int) = 4)), rfl⟩, fun h => absurd h (by decide : ¬ (6 : Int) ≤ 3), fun hb => ⟨rfl, ?_⟩⟩
    have : m.f1 = 2 := by simpa using hb
    exact h3 (by omega)
  · rw [if_neg hl]
    obtain ⟨h1, h2, h3, h4⟩ := h
    refine ⟨h1, ?_, h3, h4⟩
    unfold lapses at hl
    omega
theorem Inv.adv {d ans app : Int} {hs : List Int} {ms : List S50} {all : List S52} (h : Inv d ans app hs ms all) (day : Int) (h1 : d ≤ day) (h2 : day ≤ 1048576) :
    Inv day ans app hs (ms.map (lapM day)) (all ++ sortR (ms.filterMap (lapR day))) := by
  have hd : 0 ≤ d := by
    have := h.ct
    unfold ctE at this
    split at this
    · cases this
    · omega
  refine ⟨?_, ?_, ?_, ?_, ?_⟩
  · have := h.ct
    unfold ctE at this ⊢
    split at this
    · cases this
    · rw [if_neg (by omega)]; exact this
  · intro x hx
    obtain ⟨m, hm, rfl⟩ := List.mem_map.1 hx
    have := h.ok m hm
    rw [lapM_id]
    exact ⟨this.1, this.2.1, lap_sound h1 this.2.2⟩
  · rw [List.map_map]
    have e : ((fun x : S50 => x.f0) ∘ lapM day) = (fun x => x.f0) := by funext m; exact lapM_id day m
    rw [e]
    exact h.nd
  · rw [List.map_append]
    refine (List.Perm.append h.pm ((sort_perm _).map rKey)).trans ?_
    exact lap_perm day ms
  · intro r hr
    rcases List.mem_append.1 hr with hr | hr
    · have := h.rd r hr; omega
    · have hr2 := (sort_perm _).mem_iff.1 hr
      obtain ⟨m, hm, he⟩ := List.mem_filterMap.1 hr2
      unfold lapR at he
      by_cases hl : lapses day m
      · rw [if_pos hl] at he
        obtain rfl := Option.some.inj he
        have h3 := (h.ok m hm).2.2.2.1
        have h4 := hl.1
        have h5 := hl.2
        show wrap64 (m.f2 + 1) ≤ day
        rw [w64 _ (by omega) (by omega)]
        omega
      · rw [if_neg hl] at he
        cases he

theorem Inv.new {ans app : Int} {hs : List Int} (h : ctE 0 ans app hs.length = 0) : Inv 0 ans app hs [] [] := ⟨h, (fun m hm => by cases hm), List.nodup_nil, List.Perm.refl _, (fun r hr => by cases hr)⟩

theorem fnd_split (x : Int) : ∀ (l : List S50) (i : Nat), 0 ≤ fnd x l i → ∃ A m B, l = A ++ m :: B ∧ fnd x l i = ((i + A.length : Nat) : Int) ∧ m.f0 = x
  | [], i, h => by simp [fnd] at h
  | y :: r, i, h => by
    unfold fnd at h ⊢
    by_cases he : y.f0 = x
    · rw [if_pos he]
      exact ⟨[], y, r, rfl, by simp, he⟩
    · rw [if_neg he] at h ⊢
      obtain ⟨A, m, B, rfl, h2, h3⟩ := fnd_split x r (i + 1) h
      exact ⟨y :: A, m, B, rfl, by rw [h2]; simp; omega, h3⟩

/-- The answer of Add, as_ far as_ the docket needs it. -/
theorem add_later {hs : List Int} {day n : Int} {ad : Int × Int} (h : IsAdd hs day n ad) (hn : 1 ≤ n) (h0 : ad.2 = 0) : day < ad.1 ∧ ad.1 ≤ 1048576 := by
  unfold IsAdd at h
  by_cases h1 : (hs.length : Int) > 1000
  · rw [if_pos h1] at h; subst h; cases h0
  rw [if_neg h1] at h
  by_cases h2 : isD day = true ∧ 0 ≤ n ∧ n ≤ 1048576
  · rw [if_pos h2] at h
    have hd : 0 ≤ day := by
      have := h2.1
      unfold isD at this
      simp at this
      exact this.1
    rcases h with ⟨d, hd2, rfl, h3, h4⟩ | ⟨rfl, _⟩
    · refine ⟨?_, by show (d : Int) ≤ _; omega⟩
      unfold mOf at h3
      rw [if_neg (by omega)] at h3
      have hlt : ¬ d + 1 ≤ day.toNat + 1 := fun hle => by have := cnt_mono hs hle; omega
      show day < (d : Int)
      omega
    · cases h0
  · rw [if_neg h2] at h; subst h; cases h0

theorem chg_sound {day : Int} {m : S50} {kind due opt : Int} (h : soundP day m) (hk : 2 ≤ kind ∧ kind ≤ 6) (hst : m.f1 = kind - 1) (ho : ¬ ((kind = 4 ∨ kind = 6) ∧ (opt < 0 ∨ 4 ≤ opt)))
    (hdue : (kind = 2 ∨ kind = 4) ∧ day < due ∧ due ≤ 1048576 ∨ ¬ (kind = 2 ∨ kind = 4) ∧ due = 0) : soundP day (chgM m kind due opt) := by
  obtain ⟨h1, h2, h3, h4⟩ := h
  have hf : ¬ m.f4 = true := fun hb => by have := (h4 hb).1; omega
  unfold chgM
  by_cases hk46 : kind = 4 ∨ kind = 6
  · simp only [if_pos hk46]
    refine ⟨⟨?_, ?_, ?_, ?_⟩, ?_, ?_, fun hb => absurd hb hf⟩ <;> show _ <;> dsimp only <;> omega
  · simp only [if_neg hk46]
    refine ⟨⟨?_, ?_, ?_, ?_⟩, ?_, ?_, fun hb => absurd hb hf⟩ <;> show _ <;> dsimp only <;> omega

theorem Inv.tail {day ans app : Int} {hs : List Int} {ms : List S50} {all rl : List S52} (h : Inv day ans app hs ms (all ++ rl)) (ad : Int × Int) (kind id opt : Int) (hid : 0 ≤ id ∧ id < 4)
    (ha : IsAdd hs day (if kind = 2 then ans else app) ad) (he : (tailV ad day ans app hs ms rl kind day id opt).2.2.2.2.2.2 = 0) :
    ∃ ms2 rl2, tailV ad day ans app hs ms rl kind day id opt = (day, ans, app, hs, ms2, rl2, 0) ∧ Inv day ans app hs ms2 (all ++ rl2) := by
  have hct := h.ct
  have hans : 1 ≤ ans ∧ 1 ≤ app := by
    unfold ctE at hct
    split at hct
    · cases hct
    · split at hct
      · cases hct
      · split at hct
        · cases hct
        · omega
  unfold tailV at he ⊢
  by_cases c1 : kind < 1 ∨ 6 < kind
  · rw [if_pos c1] at he; cases he
  rw [if_neg c1] at he ⊢
  by_cases c2 : kind = 1
  · rw [if_pos c2] at he ⊢
    by_cases c3 : (openF ms id).2 = 0
    · rw [if_pos c3]
      refine ⟨_, _, rfl, ?_⟩
      unfold openF at c3 ⊢
      rw [if_neg (by omega)] at c3 ⊢
      by_cases c4 : 0 ≤ fnd id ms 0
      · rw [if_pos c4] at c3; cases c3
      rw [if_neg c4] at c3 ⊢
      by_cases c5 : (ms.length : Int) ≥ 32
      · rw [if_pos c5] at c3; cases c3
      rw [if_neg c5]
      have hno : ∀ m ∈ ms, m.f0 ≠ id := fun m hm hi => c4 (by rw [fnd_any]; exact List.any_eq_true.2 ⟨m, hm, by simpa using hi⟩)
      refine ⟨hct, fun m hm => ?_, ?_, ?_, h.rd⟩
      · rcases List.mem_append.1 hm with hm | hm
        · exact h.ok m hm
        · obtain rfl : m = ⟨id, 1, 0, 0, false⟩ := by simpa using hm
          exact ⟨hid.1, hid.2, ⟨(by decide : (1 : Int) ≤ 1), (by decide : (1 : Int) ≤ 6), (by decide : (0 : Int) ≤ 0), (by decide : (0 : Int) < 4)⟩, .inr ⟨(by decide : ¬ ((1 : Int) = 2 ∨ (1 : Int) = 4)), rfl⟩, fun _ => rfl, fun hb => by cases hb⟩
      · simp only [List.map_append, List.map_cons, List.map_nil]
        rw [List.nodup_append]
        refine ⟨h.nd, by simp, fun x hx y hy => ?_⟩
        obtain ⟨m, hm, rfl⟩ := List.mem_map.1 hx
        obtain rfl : y = id := by simpa using hy
        exact hno m hm
      · have e : (ms ++ [(⟨id, 1, 0, 0, false⟩ : S50)]).filter isFin = ms.filter isFin := by
          rw [List.filter_append]
          have : [(⟨id, 1, 0, 0, false⟩ : S50)].filter isFin = [] := rfl
          rw [this, List.append_nil]
        show (_ : List (Int × Int)).Perm (((ms ++ [(⟨id, 1, 0, 0, false⟩ : S50)]).filter isFin).map mKey)
        rw [e]
        exact h.pm
    · rw [if_neg c3] at he
      exact absurd he c3
  rw [if_neg c2] at he ⊢
  by_cases c3 : fnd id ms 0 < 0
  · rw [if_pos c3] at he; cases he
  rw [if_neg c3] at he ⊢
  obtain ⟨A, m, B, hms, hf, hm0⟩ := fnd_split id ms 0 (by omega)
  rw [Nat.zero_add] at hf
  have hmem : m ∈ ms := by rw [hms]; simp
  have hrd : rd_T50 ms (fnd id ms 0) = m := by rw [hf, hms]; exact rd_mid A B m
  rw [hrd] at he ⊢
  by_cases c4 : m.f1 ≠ kind - 1
  · rw [if_pos c4] at he; cases he
  rw [if_neg c4] at he ⊢
  by_cases c5 : (kind = 4 ∨ kind = 6) ∧ (opt < 0 ∨ 4 ≤ opt)
  · rw [if_pos c5] at he; cases he
  rw [if_neg c5] at he ⊢
  have hb0 : (if kind = 2 ∨ kind = 4 then ad else (0, 0)).2 = 0 → (kind = 2 ∨ kind = 4) ∧ day < (if kind = 2 ∨ kind = 4 then ad else (0, 0)).1 ∧ (if kind = 2 ∨ kind = 4 then ad else (0, 0)).1 ≤ 1048576 ∨ ¬ (kind = 2 ∨ kind = 4) ∧ (if kind = 2 ∨ kind = 4 then ad else (0, 0)).1 = 0 := by
    by_cases c6 : kind = 2 ∨ kind = 4
    · rw [if_pos c6]
      intro h0
      exact .inl ⟨c6, add_later ha (by split <;> omega) h0⟩
    · rw [if_neg c6]
      intro _
      exact .inr ⟨c6, rfl⟩
  generalize (if kind = 2 ∨ kind = 4 then ad else (0, 0)) = b at *
  unfold chgV at he ⊢
  by_cases c7 : b.2 ≠ 0
  · rw [if_pos c7] at he; exact absurd he c7
  rw [if_neg c7]
  have hs := chg_sound (m := m) (kind := kind) (due := b.1) (opt := opt) (h.ok m hmem).2.2 (by omega) (by omega) c5 (hb0 (by omega))
  have hset : ms.set (fnd id ms 0).toNat (chgM m kind b.1 opt) = A ++ chgM m kind b.1 opt :: B := by rw [hf, hms]; exact set_mid A B m _
  rw [hrd, hset]
  have hok : ∀ x ∈ A ++ chgM m kind b.1 opt :: B, 0 ≤ x.f0 ∧ x.f0 < 4 ∧ soundP day x := by
    intro x hx
    rcases List.mem_append.1 hx with hx | hx
    · exact h.ok x (by rw [hms]; simp [hx])
    · rcases List.mem_cons.1 hx with rfl | hx
      · have := h.ok m hmem
        exact ⟨this.1, this.2.1, hs⟩
      · exact h.ok x (by rw [hms]; simp [hx])
  have hnd : ((A ++ chgM m kind b.1 opt :: B).map (·.f0)).Nodup := by
    have := h.nd
    rw [hms] at this
    simpa [chgM] using this
  have hmf : isFin m = false := by unfold isFin; simp; omega
  have hold : ms.filter isFin = A.filter isFin ++ B.filter isFin := by rw [hms, List.filter_append, List.filter_cons_of_neg (by simp [hmf])]
  refine ⟨_, _, rfl, ?_⟩
  by_cases c8 : kind = 6
  · rw [if_pos c8]
    refine ⟨hct, hok, hnd, ?_, fun r hr => ?_⟩
    · have e : (A ++ chgM m kind b.1 opt :: B).filter isFin = A.filter isFin ++ chgM m kind b.1 opt :: B.filter isFin := by
        rw [List.filter_append, List.filter_cons_of_pos (by unfold isFin chgM; simpa using c8)]
      have hk : mKey (chgM m kind b.1 opt) = rKey ⟨id, day, opt⟩ := by
        unfold mKey rKey chgM
        simp only [if_pos (Or.inr c8), hm0]
      have l1 : (all ++ (rl ++ [(⟨id, day, opt⟩ : S52)])).map rKey = (all ++ rl).map rKey ++ [rKey ⟨id, day, opt⟩] := by simp
      have l2 : (A.filter isFin ++ chgM m kind b.1 opt :: B.filter isFin).map mKey = (A.filter isFin).map mKey ++ mKey (chgM m kind b.1 opt) :: (B.filter isFin).map mKey := by simp
      rw [e, l1, l2, hk]
      have hp := h.pm
      rw [hold] at hp
      refine (List.Perm.append_right _ hp).trans ?_
      rw [List.map_append]
      rw [List.append_assoc]
      refine List.Perm.append_left _ ?_
      exact List.perm_append_singleton _ _
    · rw [← List.append_assoc] at hr
      rcases List.mem_append.1 hr with hr | hr
      · exact h.rd r hr
      · obtain rfl : r = ⟨id, day, opt⟩ := by simpa using hr
        exact Int.le_refl _
  · rw [if_neg c8]
    refine ⟨hct, hok, hnd, ?_, h.rd⟩
    have e : (A ++ chgM m kind b.1 opt :: B).filter isFin = A.filter isFin ++ B.filter isFin := by
      rw [List.filter_append, List.filter_cons_of_neg (by unfold isFin chgM; simpa using c8)]
    rw [e, ← hold]
    exact h.pm

theorem Inv.file {d ans app : Int} {hs : List Int} {ms : List S50} {all : List S52} (h : Inv d ans app hs ms all) (ad : Int × Int) (kind at_ id opt : Int) (hid : 0 ≤ id ∧ id < 4)
    (ha : IsAdd hs at_ (if kind = 2 then ans else app) ad) (he : (fileV ad d ans app hs ms kind at_ id opt).2.2.2.2.2.2 = 0) :
    ∃ ms2 rl2, fileV ad d ans app hs ms kind at_ id opt = (at_, ans, app, hs, ms2, rl2, 0) ∧ Inv at_ ans app hs ms2 (all ++ rl2) ∧ d ≤ at_ ∧ at_ ≤ 1048576 := by
  unfold fileV at he ⊢
  rcases advV_cases d ans app hs ms at_ with ⟨e0, e1, e2, e3, e4, e5⟩ | ⟨e0, e1⟩
  · rw [if_pos e0] at he ⊢
    obtain ⟨ms2, rl2, h1, h2⟩ := (h.adv at_ e5 e4).tail ad kind id opt hid ha he
    exact ⟨ms2, rl2, h1, h2, e5, e4⟩
  · rw [if_neg e0] at he
    exact absurd he e0
end Go.Proofs.Ytpfiecjacpbhkaa.D

/- What the laws of dockets make of their arguments: terms and filings. -/
namespace Go.Proofs.Ytpfiecjacpbhkaa.D
open Go.RowKit Go.Proofs.YtpfiecjacpbhkaaW.PrintWords Go.Proofs.YtpfiecjacpbhkaaW.PrintLast Go.Proofs.YtpfiecjacpbhkaaW.PrintMore Hx Hm
set_option linter.unusedVariables false
set_option linter.unusedSimpArgs false

theorem u8_of {a : Int} (h : (Lit.int .u8 a).wf = true) : 0 ≤ a ∧ a < 256 := by
  simp [Lit.wf, IntKind.min, IntKind.max, IntKind.signed, IntKind.bits] at h
  omega
theorem tm (a n : Int) (h : 0 ≤ a ∧ a < 256) (hn : 0 < n ∧ n < 1000) : wrap64 (Int.tmod a n) = a % n := by
  rw [tmod_pos _ _ h.1, w64 _ (by have := Int.emod_nonneg a (show n ≠ 0 by omega); omega) (by have := Int.emod_lt_of_pos a hn.1; omega)]
theorem terms_loop (l : List Int) (x y : Int) : ∀ (n i : Nat) (acc : List Int), i ≤ 6 → 6 - i = n → acc.length ≤ i → ∃ hs, Ev (fun k => insolvencylaw0_Terms.l0 k l (i : Int) x y acc) (x, y, hs) ∧ hs.length ≤ 6
  | 0, i, acc, h1, h2, h3 => by
    by_cases hl : (i : Int) < (l.length : Int)
    · exact ⟨acc, Ev.step (fun k => rfl) (ev_if hl (ev_else (by omega) (Ev.now _))), by omega⟩
    · exact ⟨acc, Ev.step (fun k => rfl) (ev_else hl (Ev.now _)), by omega⟩
  | n + 1, i, acc, h1, h2, h3 => by
    by_cases hl : (i : Int) < (l.length : Int)
    · obtain ⟨hs, h4, h5⟩ := terms_loop l x y n (i + 1) (acc ++ [wrap64 (Int.tmod (rd l (i : Int)) 60)]) (by omega) (by omega) (by simp; omega)
      refine ⟨hs, Ev.step (fun k => rfl) (ev_if hl (ev_if (by omega) (ev_if (by omega) (ev_if (by omega) ?_)))), h5⟩
      rw [w64 _ (by omega) (by omega), show (i : Int) + 1 = ((i + 1 : Nat) : Int) by omega]
      exact h4
    · exact ⟨acc, Ev.step (fun k => rfl) (ev_else hl (Ev.now _)), by omega⟩
theorem terms_ev (a b : Int) (l : List Int) (ha : 0 ≤ a ∧ a < 256) (hb : 0 ≤ b ∧ b < 256) : ∃ hs, Ev (fun k => insolvencylaw0_Terms.f k a b l) (1 + a % 8, 1 + b % 8, hs) ∧ hs.length ≤ 6 ∧ ∀ d, 0 ≤ d → d ≤ 1048576 → ctE d (1 + a % 8) (1 + b % 8) hs.length = 0 := by
  unfold insolvencylaw0_Terms.f
  rw [tm a 8 ha (by omega), tm b 8 hb (by omega), w64 (1 + a % 8) (by omega) (by omega), w64 (1 + b % 8) (by omega) (by omega)]
  obtain ⟨hs, h1, h2⟩ := terms_loop l (1 + a % 8) (1 + b % 8) 6 0 [] (by omega) rfl (by simp)
  refine ⟨hs, h1, h2, fun d h3 h4 => ?_⟩
  unfold ctE
  rw [if_neg (by omega), if_neg (by omega), if_neg (by omega)]

theorem mat_props : ∀ (l : List S83) (day : Int) (st : Int → Int), (∀ x ∈ l, Ho.ok83 x) → 0 ≤ day → day + 3 * l.length ≤ 1000000 → ∀ y ∈ matGo l day st, (0 ≤ y.f2 ∧ y.f2 < 4) ∧ 0 ≤ y.f1 ∧ y.f1 ≤ day + 3 * l.length
  | [], day, st, h, h0, h1, y, hy => by cases hy
  | x :: r, day, st, h, h0, h1, y, hy => by
    obtain ⟨w0, w1, w2, w3⟩ := h x (by simp)
    have q1 := tm x.f1 4 (u8_of w1) (by omega)
    have q2 := tm x.f2 4 (u8_of w2) (by omega)
    have hlen : ((x :: r).length : Int) = (r.length : Int) + 1 := by simp
    rw [hlen] at h1 ⊢
    unfold matGo at hy
    rw [q1, q2, w64 (day + x.f1 % 4) (by omega) (by omega)] at hy
    have ih := fun st' hy' => mat_props r (day + x.f1 % 4) st' (fun z hz => h z (by simp [hz])) (by omega) (by omega) y hy'
    by_cases c : 6 ≤ st (x.f2 % 4)
    · rw [if_pos c] at hy
      have := ih _ hy
      omega
    · rw [if_neg c] at hy
      rcases List.mem_cons.1 hy with rfl | hy
      · refine ⟨?_, ?_, ?_⟩ <;> dsimp only <;> omega
      · have := ih _ hy
        omega
theorem mat_len : ∀ (l : List S83) (day : Int) (st : Int → Int), (matGo l day st).length ≤ l.length
  | [], _, _ => Nat.le_refl _
  | x :: r, day, st => by
    unfold matGo
    split
    · have := mat_len r (wrap64 (day + wrap64 (Int.tmod x.f1 4))) st
      simp; omega
    · have := mat_len r (wrap64 (day + wrap64 (Int.tmod x.f1 4))) (fun i => if i = wrap64 (Int.tmod x.f2 4) then wrap64 (st (wrap64 (Int.tmod x.f2 4)) + 1) else st i)
      simp; omega
theorem mats_ev (l : List S83) (h : ∀ x ∈ l, Ho.ok83 x) : ∃ fl, Ev (fun k => law0_Matters.f k l) fl ∧ fl.length ≤ 24 ∧ ∀ y ∈ fl, (0 ≤ y.f2 ∧ y.f2 < 4) ∧ 0 ≤ y.f1 ∧ y.f1 ≤ 72 := by
  have hl : (l.take 24).length ≤ 24 := by rw [List.length_take]; omega
  refine ⟨_, Ev.now _, Nat.le_trans (mat_len _ _ _) hl, fun y hy => ?_⟩
  have := mat_props (l.take 24) 0 (fun _ => 0) (fun x hx => h x (List.mem_of_mem_take hx)) (by omega) (by omega) y hy
  omega
end Go.Proofs.Ytpfiecjacpbhkaa.D

/- The plain law of DocketOnce: no condition. -/
namespace Go.Proofs.Ytpfiecjacpbhkaa.D
open Go.RowKit Go.Proofs.YtpfiecjacpbhkaaW.PrintWords Go.Proofs.YtpfiecjacpbhkaaW.PrintLast Go.Proofs.YtpfiecjacpbhkaaW.PrintMore Hx Hm
set_option linter.unusedVariables false
set_option linter.unusedSimpArgs false

theorem rdR (done r : List S52) (x : S52) : rd_T52 (done ++ x :: r) (done.length : Int) = x := by
  unfold rd_T52
  rw [Int.toNat_natCast, List.getD_eq_getElem?_getD, List.getElem?_append_right (Nat.le_refl _)]
  simp
theorem rdF (done r : List S47) (x : S47) : rd_T47 (done ++ x :: r) (done.length : Int) = x := by
  unfold rd_T47
  rw [Int.toNat_natCast, List.getD_eq_getElem?_getD, List.getElem?_append_right (Nat.le_refl _)]
  simp

/-! ### the count of a matter's rulings -/
theorem nodup_one (ms : List S50) (h : (ms.map (·.f0)).Nodup) (m x : S50) (hm : m ∈ ms) (hx : x ∈ ms) (he : x.f0 = m.f0) : x = m := by
  induction ms with
  | nil => cases hm
  | cons a r ih =>
    rw [List.map_cons, List.nodup_cons] at h
    rcases List.mem_cons.1 hm with e1 | hm' <;> rcases List.mem_cons.1 hx with e2 | hx'
    · rw [e1, e2]
    · exact (h.1 (List.mem_map.2 ⟨x, hx', by rw [he, e1]⟩)).elim
    · exact (h.1 (List.mem_map.2 ⟨m, hm', by rw [← he, e2]⟩)).elim
    · exact ih h.2 hm' hx'
theorem count_one (ms : List S50) (h : (ms.map (·.f0)).Nodup) (m : S50) (hm : m ∈ ms) : (ms.filter isFin).countP (fun x => x.f0 == m.f0) = if isFin m then 1 else 0 := by
  induction ms with
  | nil => cases hm
  | cons a r ih =>
    have h' := h
    rw [List.map_cons, List.nodup_cons] at h
    have hz : a = m → (r.filter isFin).countP (fun x => x.f0 == m.f0) = 0 := by
      rintro rfl
      rw [List.countP_eq_zero]
      intro x hx hb
      exact h.1 (List.mem_map.2 ⟨x, (List.mem_filter.1 hx).1, by simpa using hb⟩)
    by_cases ha : a = m
    · have := hz ha
      subst ha
      by_cases hf : isFin a = true
      · rw [List.filter_cons_of_pos hf, List.countP_cons_of_pos (by simp), this, if_pos hf]
      · rw [List.filter_cons_of_neg hf, this, if_neg hf]
    · have hm2 : m ∈ r := by
        rcases List.mem_cons.1 hm with rfl | hm
        · exact absurd rfl ha
        · exact hm
      have hne : ¬ (a.f0 == m.f0) = true := fun hb => h.1 (List.mem_map.2 ⟨m, hm2, (by simpa using hb : a.f0 = m.f0).symm⟩)
      have e := ih h.2 hm2
      by_cases hf : isFin a = true
      · rw [List.filter_cons_of_pos hf, List.countP_cons_of_neg (p := fun x : S50 => x.f0 == m.f0) (by exact hne), e]
      · rw [List.filter_cons_of_neg hf, e]
theorem Inv.count {d ans app : Int} {hs : List Int} {ms : List S50} {all : List S52} (h : Inv d ans app hs ms all) (m : S50) (hm : m ∈ ms) : all.countP (fun r => r.f0 == m.f0) = if isFin m then 1 else 0 := by
  rw [← count_one ms h.nd m hm]
  have e1 : all.countP (fun r => r.f0 == m.f0) = (all.map rKey).countP (fun p => p.1 == m.f0) := by rw [List.countP_map]; rfl
  have e2 : (ms.filter isFin).countP (fun x => x.f0 == m.f0) = ((ms.filter isFin).map mKey).countP (fun p => p.1 == m.f0) := by rw [List.countP_map]; rfl
  rw [e1, e2]
  exact h.pm.countP_eq _
theorem Inv.opt {d ans app : Int} {hs : List Int} {ms : List S50} {all : List S52} (h : Inv d ans app hs ms all) (m : S50) (hm : m ∈ ms) (r : S52) (hr : r ∈ all) (he : r.f0 = m.f0) : r.f2 = m.f3 := by
  have h1 : rKey r ∈ (ms.filter isFin).map mKey := h.pm.mem_iff.1 (List.mem_map.2 ⟨r, hr, rfl⟩)
  obtain ⟨x, hx, hk⟩ := List.mem_map.1 h1
  unfold mKey rKey at hk
  injection hk with k1 k2
  have := nodup_one ms h.nd m x hm (List.mem_filter.1 hx).1 (k1.trans he)
  rw [← k2, this]

section
variable {d ans app : Int} {hs : List Int} {ms : List S50} {all : List S52}
theorem once_l2 (h : Inv d ans app hs ms all) (x20 x21 : Int) (m : S50) (hm : m ∈ ms)
    (hc : Ev (fun k => insolvencylaw33_DocketOnce.l1 k all (if isFin m then wrap64 (x20 + 1) else x20) (wrap64 (x21 + 1)) d ans app hs ms) true) : ∀ (rest done : List S52), all = done ++ rest →
    Ev (fun k => insolvencylaw33_DocketOnce.l2 k all x20 x21 ((done.countP (fun r => r.f0 == m.f0) : Nat) : Int) (done.length : Int) d ans app hs ms m.f0 m.f1 m.f2 m.f3 m.f4) true
  | [], done, ha => by
    have hcnt := h.count m hm
    rw [List.append_nil] at ha
    subst ha
    refine Ev.step (fun k => rfl) (ev_else (by omega) ?_)
    rw [hcnt]
    by_cases hf : isFin m = true
    · have h6 : m.f1 = 6 := by unfold isFin at hf; simpa using hf
      rw [if_pos hf] at hc ⊢
      exact ev_if h6 (ev_else (by simp [h6]) (ev_else (by simp) hc))
    · have h6 : ¬ m.f1 = 6 := by unfold isFin at hf; simpa using hf
      rw [if_neg hf] at hc ⊢
      exact ev_else h6 (ev_else (by simp [h6]) (ev_else (by simp) hc))
  | x :: r, done, ha => by
    have hl := h.all_len
    have hx : x ∈ all := by rw [ha]; simp
    have hlen : all.length = done.length + r.length + 1 := by rw [ha]; simp; omega
    have hrx : rd_T52 all (done.length : Int) = x := by rw [ha]; exact rdR done r x
    have hcl := List.countP_le_length (p := fun r : S52 => r.f0 == m.f0) (l := done)
    have ih := once_l2 h x20 x21 m hm hc r (done ++ [x]) (by rw [ha]; simp)
    refine Ev.step (fun k => rfl) (ev_if (by omega) (ev_if (by omega) ?_))
    rw [hrx]
    have ew : wrap64 ((done.length : Int) + 1) = ((done ++ [x]).length : Int) := by rw [w64 _ (by omega) (by omega)]; simp
    by_cases hk : x.f0 = m.f0
    · refine ev_if hk (ev_if (h.opt m hm x hx hk) (ev_else (by have := h.rd x hx; omega) ?_))
      rw [ew, w64 _ (by omega) (by omega)]
      rw [List.countP_append, List.countP_cons_of_pos (by simpa using hk), List.countP_nil] at ih
      rw [show ((done.countP (fun r => r.f0 == m.f0) : Nat) : Int) + 1 = ((done.countP (fun r => r.f0 == m.f0) + (0 + 1) : Nat) : Int) by omega]
      exact ih
    · refine ev_else hk ?_
      rw [ew]
      rw [List.countP_append, List.countP_cons_of_neg (by simpa using hk), List.countP_nil] at ih
      exact ih

theorem once_l1 (h : Inv d ans app hs ms all) : ∀ (rest done : List S50), ms = done ++ rest → Ev (fun k => insolvencylaw33_DocketOnce.l1 k all ((done.countP isFin : Nat) : Int) (done.length : Int) d ans app hs ms) true
  | [], done, hd => by
    rw [List.append_nil] at hd
    subst hd
    refine Ev.step (fun k => rfl) (ev_else (by omega) (Ev.bind awake_ev (ev_if rfl ?_)))
    have e := h.pm.length_eq
    rw [List.length_map, List.length_map, ← List.countP_eq_length_filter] at e
    rw [e]
    have : (((List.countP isFin ms : Nat) : Int) == ((List.countP isFin ms : Nat) : Int)) = true := by simp
    rw [this]
    exact Ev.now _
  | m :: r, done, hd => by
    have hl := h.len
    have hmem : m ∈ ms := by rw [hd]; simp
    have hlen : ms.length = done.length + r.length + 1 := by rw [hd]; simp; omega
    have hrm : rd_T50 ms (done.length : Int) = m := by rw [hd]; exact rd_mid done r m
    have hcl := List.countP_le_length (p := isFin) (l := done)
    have ih := once_l1 h r (done ++ [m]) (by rw [hd]; simp)
    refine Ev.step (fun k => rfl) (ev_if (by omega) (ev_if (by omega) ?_))
    rw [hrm]
    have ew : wrap64 ((done.length : Int) + 1) = ((done ++ [m]).length : Int) := by rw [w64 _ (by omega) (by omega)]; simp
    refine once_l2 h _ _ m hmem ?_ all [] rfl
    rw [ew]
    by_cases hf : isFin m = true
    · rw [if_pos hf, w64 _ (by omega) (by omega)]
      rw [List.countP_append, List.countP_cons_of_pos hf, List.countP_nil] at ih
      rw [show ((done.countP isFin : Nat) : Int) + 1 = ((done.countP isFin + (0 + 1) : Nat) : Int) by omega]
      exact ih
    · rw [if_neg hf]
      rw [List.countP_append, List.countP_cons_of_neg hf, List.countP_nil] at ih
      exact ih
end

theorem once_l0 (a3 ans app : Int) (hs : List Int) (h3 : 0 ≤ a3 ∧ a3 < 256) : ∀ (rest done : List S47) (d : Int) (ms : List S50) (all : List S52), (∀ y ∈ rest, (0 ≤ y.f2 ∧ y.f2 < 4) ∧ 0 ≤ y.f1 ∧ y.f1 ≤ 72) → (done ++ rest).length ≤ 24 → 0 ≤ d → d ≤ 72 → Inv d ans app hs ms all →
    Ev (fun k => insolvencylaw33_DocketOnce.l0 k a3 all (done ++ rest) (done.length : Int) d ans app hs ms) true
  | [], done, d, ms, all, hy, hl, d0, d1, h => by
    refine Ev.step (fun k => rfl) (ev_else (by simp) ?_)
    have ew : wrap64 (d + wrap64 (Int.tmod a3 60)) = d + a3 % 60 := by rw [tm a3 60 h3 (by omega), w64 _ (by omega) (by omega)]
    rw [ew]
    have hle := h.len
    have h2 := h.adv (d + a3 % 60) (by omega) (by omega)
    have ha := advV_ev d ans app hs ms (d + a3 % 60) (Nat.le_trans (List.length_filterMap_le _ _) (by omega))
    have hv : advV d ans app hs ms (d + a3 % 60) = (d + a3 % 60, ans, app, hs, ms.map (lapM (d + a3 % 60)), sortR (ms.filterMap (lapR (d + a3 % 60))), 0) := by
      unfold advV
      rw [if_pos h.chk, if_neg (by omega), if_neg (by omega)]
    rw [hv] at ha
    refine Ev.bind ha (ev_if rfl (Ev.bind (check_ev _ _ _ _ _) ?_))
    rw [h2.chk]
    have hal := h2.all_len
    rw [List.length_append] at hal
    refine Ev.step (fun k => rfl) (ev_if (by dsimp only; omega) ?_)
    exact once_l1 h2 _ [] rfl
  | x :: r, done, d, ms, all, hy, hl, d0, d1, h => by
    have hlen : (done ++ x :: r).length = done.length + r.length + 1 := by simp; omega
    refine Ev.step (fun k => rfl) (ev_if (by omega) (ev_if (by omega) ?_))
    rw [rdF]
    have hx := hy x (by simp)
    have hle := h.len
    obtain ⟨ad, ha1, -, ha2⟩ := adds hs x.f1 (if x.f0 = 2 then ans else app)
    have hf := file_ev ad d ans app hs ms x.f0 x.f1 x.f2 x.f3 (by omega) ha1
    have ew : wrap64 ((done.length : Int) + 1) = ((done ++ [x]).length : Int) := by rw [w64 _ (by omega) (by omega)]; simp
    refine Ev.bind hf ?_
    rw [ew]
    by_cases he : (fileV ad d ans app hs ms x.f0 x.f1 x.f2 x.f3).2.2.2.2.2.2 = 0
    · refine ev_if he ?_
      obtain ⟨ms2, rl2, e1, h2, h4, h5⟩ := h.file ad x.f0 x.f1 x.f2 x.f3 hx.1 ha2 he
      rw [e1]
      have hal := h2.all_len
      rw [List.length_append] at hal
      refine ev_if (by show all.length + rl2.length < _; omega) (Ev.bind (check_ev _ _ _ _ _) ?_)
      refine ev_if h2.chk ?_
      have ih := once_l0 a3 ans app hs h3 r (done ++ [x]) x.f1 ms2 (all ++ rl2) (fun y hy' => hy y (by simp [hy'])) (by simpa using hl) hx.2.1 hx.2.2 h2
      rw [List.append_assoc] at ih
      exact ih
    · refine ev_else he (Ev.bind (check_ev _ _ _ _ _) (ev_if h.chk ?_))
      have ih := once_l0 a3 ans app hs h3 r (done ++ [x]) d ms all (fun y hy' => hy y (by simp [hy'])) (by simpa using hl) d0 d1 h
      rw [List.append_assoc] at ih
      exact ih
end Go.Proofs.Ytpfiecjacpbhkaa.D
namespace Go.Proofs.Ytpfiecjacpbhkaa.Pure
open Go.RowKit Go.Proofs.YtpfiecjacpbhkaaW.PrintWords Go.Proofs.YtpfiecjacpbhkaaW.PrintLast Go.Proofs.YtpfiecjacpbhkaaW.PrintMore Hx Hm D
theorem DocketOnce : insolvencylaw33_DocketOnce.Pure := by
  intro a0 l1 l2 a3 w0 hl1 wl1 hl2 wl2 w3
  refine Ev.rounds (g := fun k => insolvencylaw33_DocketOnce.f k a0.f0 a0.f1 l1 l2 a3) ?_
  unfold insolvencylaw33_DocketOnce.f
  obtain ⟨hs, h1, h2, h3⟩ := terms_ev a0.f0 a0.f1 l1 (u8_of w0.1) (u8_of w0.2)
  obtain ⟨fl, h4, h5, h6⟩ := mats_ev l2 wl2
  have hc := h3 0 (by omega) (by omega)
  refine Ev.bind h1 (Ev.bind (new_ev _ _ _ _) ?_)
  rw [newV_ok hc]
  refine ev_if rfl (Ev.bind h4 ?_)
  exact once_l0 a3 _ _ hs (u8_of w3) fl [] 0 [] [] h6 (by simpa using h5) (by omega) (by omega) (Inv.new hc)
end Go.Proofs.Ytpfiecjacpbhkaa.Pure

/- The row of DocketOnce: its arguments opened, the walk ('insolvencylaw33_DocketOnce.calls', printed), the pure statement (YtpfiecjacpbhkaaPureDocketOnce), and all shut again. Written by a program of this session's. -/
namespace Go.Proofs.Ytpfiecjacpbhkaa.docketOnce
open Go.ChangeShapes Go.WideShapes Go.ChangeAt Go.RowKit Go.Proofs.YtpfiecjacpbhkaaW.PrintWords
set_option linter.unusedVariables false
set_option linter.unusedSimpArgs false
theorem own : ownKnob Try.prog.godebug = none := by kernel_rfl
theorem laidOut : laidOutB Try.prog = true := by kernel_rfl
set_option maxRecDepth 100000 in
theorem lifted (os : Os) (started : os.Started) (H : Type) (enc : TypeId × Value → H) :
    ReturnsInHanded {} Try.checked os 4 .any (Rows.docketOnceSpec.pre6 enc Try.prog Try.f4 Rows.docketOnceRow.domain false) (Rows.docketOnceSpec.post enc Try.prog Try.f4 false true false false) := by
  refine returnsInHanded_of_change_sized (C := Try.checked) own started (by kernel_rfl) Try.func4
    (ChangeSpec.witness6 (enc := enc) (C := Try.checked) false ⟨#[], #[.agg #[.int .u8 0, .int .u8 0], .slice none 0 0, .slice none 0 0, .int .u8 0], []⟩ 8 (by kernel_rfl) (by kernel_rfl) (by kernel_rfl) (by kernel_rfl)) ?_
  intro W base args ds gs before hval0 hW hcnd hsz0 _
  have hval : ∀ (j : Nat) t v, Try.f4.params[j]? = some t → args[j]? = some v → Value.okWide Try.prog W .any base t v := hval0
  have hW' := hW
  obtain ⟨p, q, hA0, hV, rfl, hfz, hnd⟩ := hW
  have hA : DataW.TrodAll enc Try.prog W 0 (fun _ => true) true Try.f4.params.toList args.toList ds p := hA0
  rw [Try.params4] at hA hval
  obtain ⟨v0, vs0, d0, ds0, p0, q0, hargs, rfl, rfl, h0, r0⟩ := trodAll_cons hA
  obtain ⟨v1, vs1, d1, ds1, p1, q1, rfl, rfl, rfl, h1, r1⟩ := trodAll_cons r0
  obtain ⟨v2, vs2, d2, ds2, p2, q2, rfl, rfl, rfl, h2, r2⟩ := trodAll_cons r1
  obtain ⟨v3, vs3, d3, ds3, p3, q3, rfl, rfl, rfl, h3, r3⟩ := trodAll_cons r2
  obtain ⟨rfl, rfl, rfl⟩ := trodAll_nil r3
  obtain rfl : args = #[v0, v1, v2, v3] := by cases args; simp_all
  obtain ⟨rfl, rfl⟩ := trodVars_none hV
  have k0 := h0
  have lt0 : ∀ x ∈ p0, x.block < W.heap.size := by obtain ⟨m, hm⟩ := k0; exact DataW.trod_lt m _ _ _ hm
  obtain ⟨cs0, a0, rfl, K0, w0⟩ := Ho.open_array Try.underlying22 (hval 0 22 v0 rfl rfl) h0 Ho.reads22
  obtain rfl := D.k22_open K0
  have k1 := h1
  have lt1 : ∀ x ∈ p1, x.block < W.heap.size := by obtain ⟨m, hm⟩ := k1; exact DataW.trod_lt m _ _ _ hm
  obtain ⟨A1, l1, c1, rfl, lc1, lm1, rr1, w1⟩ := Ho.open_rows Try.underlying23 (hval 1 23 v1 rfl rfl) h1 Ho.readsI_u16
  have k2 := h2
  have lt2 : ∀ x ∈ p2, x.block < W.heap.size := by obtain ⟨m, hm⟩ := k2; exact DataW.trod_lt m _ _ _ hm
  obtain ⟨A2, l2, c2, rfl, lc2, lm2, rr2, w2⟩ := Ho.open_rows Try.underlying24 (hval 2 24 v2 rfl rfl) h2 Ho.reads83
  have k3 := h3
  have lt3 : ∀ x ∈ p3, x.block < W.heap.size := by obtain ⟨m, hm⟩ := k3; exact DataW.trod_lt m _ _ _ hm
  obtain ⟨a3, rfl, _, _, w3⟩ := open_int Try.underlying5 (hval 3 5 v3 rfl rfl) h3
  clear hA0 hval0 hsz0
  obtain ⟨k, hk⟩ := Pure.DocketOnce a0 l1 l2 a3 w0 lm1 w1 lm2 w2 w3
  refine (D.insolvencylaw33_DocketOnce.calls k a0.f0 a0.f1 _ _ l1 _ _ l2 a3 true W (show Kd.C _ W A1 l1.length l1 from rr1) lc1 (show Kd.C _ W A2 l2.length l2 from rr2) lc2 hk).mono fun e W' ⟨he, bel⟩ => ?_
  subst he
  exact ⟨_, rfl, _, _, _, [], _, [], hW', trodAll_mk1 (shut_bool Try.underlying4 _), (trodAll_cons_mk (Below.trod laidOut (by kernel_rfl) (of_decide_eq_true (by kernel_rfl)) k0 bel lt0) (trodAll_cons_mk (Below.trod laidOut (by kernel_rfl) (of_decide_eq_true (by kernel_rfl)) k1 bel lt1) (trodAll_cons_mk (Below.trod laidOut (by kernel_rfl) (of_decide_eq_true (by kernel_rfl)) k2 bel lt2) (trodAll_cons_mk (Below.trod laidOut (by kernel_rfl) (of_decide_eq_true (by kernel_rfl)) k3 bel lt3) trodAll_mk0)))), rfl, bel.frame _, fun h => by cases h⟩
theorem over : Rows.docketOnceRow.holds Try.pinned (OpenSpec.ofChange Rows.docketOnceSpec) :=
  OpenClaim.holds_of_wide 4 Try.f4 rfl rfl rfl rfl rfl rfl rfl ⟨rfl, rfl, rfl, rfl, rfl⟩ rfl rfl rfl rfl rfl (by kernel_rfl) Try.func4 (by kernel_rfl)
    (of_decide_eq_true (by kernel_rfl)) (by unfold Func.isWrapper; first | (rw [if_pos (by decide +kernel)]; kernel_rfl) | (rw [if_neg (by decide +kernel)]; exact ⟨rfl, rfl⟩))
    (fun os started H enc _ => lifted os started H enc)
theorem proved : Rows.DocketOnceSaid := over
#print axioms proved
end Go.Proofs.Ytpfiecjacpbhkaa.docketOnce
namespace Go.Proofs.Ytpfiecjacpbhkaa
/-- The row, under a short name, for the claim. -/
theorem docketOnce_holds : Rows.DocketOnceSaid := docketOnce.proved
end Go.Proofs.Ytpfiecjacpbhkaa
