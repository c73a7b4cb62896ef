/- Part 5 of 6 of the proof of DocketFile: texts of this claim put one behind the other by a program; each begins with its own words. -/
import Derived.Deep.RegionHeld3
import Derived.Maps.Own
import Derived.Maps.OwnOps
import Derived.Maps.Views
import Derived.SizedLaws
import Derived.ChangeSlices
import Derived.OpenShut
import Derived.Deep.Slices
import Derived.Deep.Fields
import Derived.ChangeSame
import Derived.ProofKit
import Derived.Test.YtpfiecjacpbhkaaZDocketFile4
namespace Go.Proofs.Ytpfiecjacpbhkaa.F
open Go.RowKit Go.Proofs.YtpfiecjacpbhkaaW.PrintWords Go.Proofs.YtpfiecjacpbhkaaW.PrintLast Go.Proofs.YtpfiecjacpbhkaaW.PrintMore
attribute [local go_sem] max2_int min2_int max_two min_two max_three min_three max_four min_four
set_option linter.unusedVariables false
set_option linter.unusedSimpArgs false
mutual
def insolvencyref1_AddDays.j0 : Nat → Int → Int → List Int → Bool → Option (Int × Int)
  | 0, _, _, _, _ => none
  | k + 1, x0, x1, x2, x22 => if x22 = true then (some (0, 1)) else (if x1 > 0 then (insolvencyref1_AddDays.j1 k x1 x2 (wrap64 (x0 + 1))) else (insolvencyref1_AddDays.j1 k x1 x2 x0))
def insolvencyref1_AddDays.j1 : Nat → Int → List Int → Int → Option (Int × Int)
  | 0, _, _, _ => none
  | k + 1, x1, x2, x8 => insolvencyref1_AddDays.l0 k x1 x2 x8
def insolvencyref1_AddDays.l0 : Nat → Int → List Int → Int → Option (Int × Int)
  | 0, _, _, _ => none
  | k + 1, x1, x2, x8 => if x8 ≤ 1048576 then ((insolvencyref1_IsBusiness.f k x8 x2).bind fun t126 => (if t126 = true then (if x1 ≤ 1 then (some (x8, 0)) else (insolvencyref1_AddDays.l0 k (wrap64 (x1 - 1)) x2 (wrap64 (x8 + 1)))) else (insolvencyref1_AddDays.l0 k x1 x2 (wrap64 (x8 + 1))))) else (some (0, 1))
end
def insolvencyref1_AddDays.f (k : Nat) (a0 : Int) (a1 : Int) (l2 : List Int) : Option (Int × Int) := if (l2.length : Int) > 1000 then (some (0, 2)) else ((insolvencyref1_IsDay.f a0).bind fun t125 => (if t125 = true then (if a1 < 0 then (insolvencyref1_AddDays.j0 k a0 a1 l2 true) else (insolvencyref1_AddDays.j0 k a0 a1 l2 (decide (a1 > 1048576)))) else (insolvencyref1_AddDays.j0 k a0 a1 l2 true)))
theorem insolvencyref1_AddDays.mono_l : ∀ k, (∀ y0 y1 y2 y3, LeO (insolvencyref1_AddDays.j0 k y0 y1 y2 y3) (insolvencyref1_AddDays.j0 (k + 1) y0 y1 y2 y3)) ∧ (∀ y0 y1 y2, LeO (insolvencyref1_AddDays.j1 k y0 y1 y2) (insolvencyref1_AddDays.j1 (k + 1) y0 y1 y2)) ∧ (∀ y0 y1 y2, LeO (insolvencyref1_AddDays.l0 k y0 y1 y2) (insolvencyref1_AddDays.l0 (k + 1) y0 y1 y2))
  | 0 => ⟨fun _ _ _ _ r h => by simp [insolvencyref1_AddDays.j0] at h, fun _ _ _ r h => by simp [insolvencyref1_AddDays.j1] at h, fun _ _ _ r h => by simp [insolvencyref1_AddDays.l0] at h⟩
  | k + 1 => by
    obtain ⟨ih0, ih1, ih2⟩ := insolvencyref1_AddDays.mono_l k
    refine ⟨?_, ?_, ?_⟩
    · intro y0 y1 y2 y3
      unfold insolvencyref1_AddDays.j0
      repeat' first
      | (with_reducible exact ih0 _ _ _ _)
      | (with_reducible exact ih1 _ _ _)
      | (with_reducible exact ih2 _ _ _)
      | (with_reducible exact insolvencyref1_IsBusiness.mono _ _ _)
      | (with_reducible exact LeO.refl _)
      | (with_reducible exact LeO.none _)
      | (with_reducible refine LeO.ite ?_ ?_)
      | (with_reducible refine LeO.bind ?_ (fun _ => ?_))
      | exact ih0 _ _ _ _
      | exact ih1 _ _ _
      | exact ih2 _ _ _
      | exact insolvencyref1_IsBusiness.mono _ _ _
      | exact LeO.none _
      | refine LeO.ite ?_ ?_
      | refine LeO.bind ?_ (fun _ => ?_)
    · intro y0 y1 y2
      unfold insolvencyref1_AddDays.j1
      repeat' first
      | (with_reducible exact ih0 _ _ _ _)
      | (with_reducible exact ih1 _ _ _)
      | (with_reducible exact ih2 _ _ _)
      | (with_reducible exact insolvencyref1_IsBusiness.mono _ _ _)
      | (with_reducible exact LeO.refl _)
      | (with_reducible exact LeO.none _)
      | (with_reducible refine LeO.ite ?_ ?_)
      | (with_reducible refine LeO.bind ?_ (fun _ => ?_))
      | exact ih0 _ _ _ _
      | exact ih1 _ _ _
      | exact ih2 _ _ _
      | exact insolvencyref1_IsBusiness.mono _ _ _
      | exact LeO.none _
      | refine LeO.ite ?_ ?_
      | refine LeO.bind ?_ (fun _ => ?_)
    · intro y0 y1 y2
      unfold insolvencyref1_AddDays.l0
      repeat' first
      | (with_reducible exact ih0 _ _ _ _)
      | (with_reducible exact ih1 _ _ _)
      | (with_reducible exact ih2 _ _ _)
      | (with_reducible exact insolvencyref1_IsBusiness.mono _ _ _)
      | (with_reducible exact LeO.refl _)
      | (with_reducible exact LeO.none _)
      | (with_reducible refine LeO.ite ?_ ?_)
      | (with_reducible refine LeO.bind ?_ (fun _ => ?_))
      | exact ih0 _ _ _ _
      | exact ih1 _ _ _
      | exact ih2 _ _ _
      | exact insolvencyref1_IsBusiness.mono _ _ _
      | exact LeO.none _
      | refine LeO.ite ?_ ?_
      | refine LeO.bind ?_ (fun _ => ?_)
theorem insolvencyref1_AddDays.mono : ∀ a0 a1 a2 k, LeO (insolvencyref1_AddDays.f k a0 a1 a2) (insolvencyref1_AddDays.f (k + 1) a0 a1 a2) := by
  intro a0 a1 a2 k
  obtain ⟨ih0, ih1, ih2⟩ := insolvencyref1_AddDays.mono_l k
  unfold insolvencyref1_AddDays.f
  repeat' first
      | (with_reducible exact ih0 _ _ _ _)
      | (with_reducible exact ih1 _ _ _)
      | (with_reducible exact ih2 _ _ _)
      | (with_reducible exact insolvencyref1_IsBusiness.mono _ _ _)
      | (with_reducible exact LeO.refl _)
      | (with_reducible exact LeO.none _)
      | (with_reducible refine LeO.ite ?_ ?_)
      | (with_reducible refine LeO.bind ?_ (fun _ => ?_))
      | exact ih0 _ _ _ _
      | exact ih1 _ _ _
      | exact ih2 _ _ _
      | exact insolvencyref1_IsBusiness.mono _ _ _
      | exact LeO.none _
      | refine LeO.ite ?_ ?_
      | refine LeO.bind ?_ (fun _ => ?_)
set_option maxHeartbeats 8000000 in
set_option maxRecDepth 100000 in
theorem insolvencyref1_AddDays.calls (k : Nat) (a0 : Int) (a1 : Int) (A2 : Option Addr) (c2 : Nat) (l2 : List Int) (r1 : Int) (r2 : Int) (w : World) (hr2 : Kd.C (Kd.int .i64) w A2 l2.length l2) (hc2 : l2.length ≤ c2) (h : insolvencyref1_AddDays.f k a0 a1 l2 = some (r1, r2)) :
    Calls Try.prog 61 #[.int .i64 a0, .int .i64 a1, .slice A2 l2.length c2] w fun e w' => e = .returned (.tuple #[.int .i64 r1, .int .i64 r2]) ∧ Drawn0 w w' := by
  have HR2 := Aside0.mk hr2
  have HC2 := Aside0.mk hc2
  clear hr2 hc2
  have H : (if (l2.length : Int) > 1000 then (some (0, 2)) else ((insolvencyref1_IsDay.f a0).bind fun t125 => (if t125 = true then (if a1 < 0 then (insolvencyref1_AddDays.j0 k a0 a1 l2 true) else (insolvencyref1_AddDays.j0 k a0 a1 l2 (decide (a1 > 1048576)))) else (insolvencyref1_AddDays.j0 k a0 a1 l2 true)))) = some (r1, r2) := h
  clear h
  by_cases c4 : (l2.length : Int) > 1000
  · rw [if_pos c4] at H
    have c4b0 : decide (1000 < (l2.length : Int)) = true := decide_eq_true c4
    have c4b1 : decide (1000 < l2.length) = true := decide_eq_true (by omega)
    clear c4
    simp only [Option.some.injEq, Prod.mk.injEq] at H
    obtain ⟨rfl, rfl⟩ := H
    go_enter Try.func61, Try.ntmps61
    go_wp2
    go_ret2
    exact ⟨by first | rfl | (simp; done) | (simp [*]; done), by repeat (first | exact Drawn0.refl _ | apply Drawn0.step)⟩
  · rw [if_neg c4] at H
    have c4b0 : decide (1000 < (l2.length : Int)) = false := decide_eq_false c4
    have c4b1 : decide (1000 < l2.length) = false := decide_eq_false (by omega)
    clear c4
    have HC5 := Aside0.mk H
    clear H
    go_enter Try.func61, Try.ntmps61
    go_upto_region 3 with (fail)
    go_cut [22] (fun v22 wc => ∃ (kq : Nat) (x22_4 : Bool), v22 = .bool x22_4 ∧ Aside0 (insolvencyref1_AddDays.j0 kq a0 a1 l2 x22_4 = some (r1, r2)) ∧ Aside0 (kq ≤ k) ∧ Drawn0 w wc)
    case first =>
      have H := HC5.out
      clear HC5
      replace H := Option.bind_eq_some_iff.mp H
      obtain ⟨t125, A60, H⟩ := H
      replace H : (if t125 = true then (if a1 < 0 then (insolvencyref1_AddDays.j0 k a0 a1 l2 true) else (insolvencyref1_AddDays.j0 k a0 a1 l2 (decide (a1 > 1048576)))) else (insolvencyref1_AddDays.j0 k a0 a1 l2 true)) = some (r1, r2) := H
      have A6 := Aside0.mk A60
      clear A60
      by_cases c7 : t125 = true
      · subst c7
        have H1 : (if a1 < 0 then (insolvencyref1_AddDays.j0 k a0 a1 l2 true) else (insolvencyref1_AddDays.j0 k a0 a1 l2 (decide (a1 > 1048576)))) = some (r1, r2) := by rw [if_pos rfl] at H; exact H
        clear H
        have H := H1
        clear H1
        by_cases c8 : a1 < 0
        · rw [if_pos c8] at H
          have c8b0 : decide (a1 < 0) = true := decide_eq_true c8
          clear c8
          (first | rw [c8b0] | (simp only [i64_w, i32_w]; rw [c8b0]) | skip)
          have H' := Aside0.mk H
          clear H
          go_wp2_with (first | ((with_reducible refine gate_callee (f := 69) rfl ?_); refine goesL_ (some 13) rfl rfl Try.func69 (by kernel_rfl) rfl #[.int .i64 a0] rfl (by (try simp only [List.map_toArray, List.map_cons, List.map_nil]); first | done | rfl | (simp only [List.length_drop, List.length_take]; rfl)) ?_; (with_reducible refine (insolvencyref1_IsDay.calls a0 true _ A6.out).mono ?_); rintro e w' ⟨rfl, ⟨nd, rfl⟩⟩; refine ⟨_, rfl, ?_⟩))
          go_meet
          case rel => exact ⟨_, (true), (by first | rfl | (simp; done) | (simp [*]; done)), H', ⟨by first | omega | exact Nat.le_refl _⟩, by repeat (first | exact Drawn0.refl _ | apply Drawn0.step)⟩
        · rw [if_neg c8] at H
          have c8b0 : decide (a1 < 0) = false := decide_eq_false c8
          clear c8
          (first | rw [c8b0] | (simp only [i64_w, i32_w]; rw [c8b0]) | skip)
          have H' := Aside0.mk H
          clear H
          go_wp2_with (first | ((with_reducible refine gate_callee (f := 69) rfl ?_); refine goesL_ (some 13) rfl rfl Try.func69 (by kernel_rfl) rfl #[.int .i64 a0] rfl (by (try simp only [List.map_toArray, List.map_cons, List.map_nil]); first | done | rfl | (simp only [List.length_drop, List.length_take]; rfl)) ?_; (with_reducible refine (insolvencyref1_IsDay.calls a0 true _ A6.out).mono ?_); rintro e w' ⟨rfl, ⟨nd, rfl⟩⟩; refine ⟨_, rfl, ?_⟩))
          go_meet
          case rel => exact ⟨_, (decide (a1 > 1048576)), (by first | rfl | (simp; done) | (simp [*]; done)), H', ⟨by first | omega | exact Nat.le_refl _⟩, by repeat (first | exact Drawn0.refl _ | apply Drawn0.step)⟩
      · replace c7 := Bool.eq_false_iff.mpr c7
        subst c7
        have H1 : (insolvencyref1_AddDays.j0 k a0 a1 l2 true) = some (r1, r2) := by rw [if_neg (show ¬ (false = true) by decide)] at H; exact H
        clear H
        have H := H1
        clear H1
        have H' := Aside0.mk H
        clear H
        go_wp2_with (first | ((with_reducible refine gate_callee (f := 69) rfl ?_); refine goesL_ (some 13) rfl rfl Try.func69 (by kernel_rfl) rfl #[.int .i64 a0] rfl (by (try simp only [List.map_toArray, List.map_cons, List.map_nil]); first | done | rfl | (simp only [List.length_drop, List.length_take]; rfl)) ?_; (with_reducible refine (insolvencyref1_IsDay.calls a0 false _ A6.out).mono ?_); rintro e w' ⟨rfl, ⟨nd, rfl⟩⟩; refine ⟨_, rfl, ?_⟩))
        go_meet
        case rel => exact ⟨_, (true), (by first | rfl | (simp; done) | (simp [*]; done)), H', ⟨by first | omega | exact Nat.le_refl _⟩, by repeat (first | exact Drawn0.refl _ | apply Drawn0.step)⟩
    case rest =>
      clear HC5
      try clear c2
      try clear p2
      try clear c4
      try clear c4b0
      try clear c4b1
      try clear c6
      try clear c7
      try clear c8
      try clear c8b0
      obtain ⟨kq, x22_4, rfl, HA, HJ4, ⟨mc4, rfl⟩⟩ := hcut
      cases kq with
      | zero => exact absurd HA.out (by simp [insolvencyref1_AddDays.j0])
      | succ kj4 =>
        have H := HA.out
        clear HA
        simp only [insolvencyref1_AddDays.j0] at H
        by_cases c9 : x22_4 = true
        · subst c9
          have H1 : (some (0, 1)) = some (r1, r2) := by rw [if_pos rfl] at H; exact H
          clear H
          have H := H1
          clear H1
          simp only [Option.some.injEq, Prod.mk.injEq] at H
          obtain ⟨rfl, rfl⟩ := H
          go_wp2
          go_ret2
          exact ⟨by first | rfl | (simp; done) | (simp [*]; done), by repeat (first | exact Drawn0.refl _ | apply Drawn0.step)⟩
        · replace c9 := Bool.eq_false_iff.mpr c9
          subst c9
          have H1 : (if a1 > 0 then (insolvencyref1_AddDays.j1 kj4 a1 l2 (wrap64 (a0 + 1))) else (insolvencyref1_AddDays.j1 kj4 a1 l2 a0)) = some (r1, r2) := by rw [if_neg (show ¬ (false = true) by decide)] at H; exact H
          clear H
          have H := H1
          clear H1
          have HC10 := Aside0.mk H
          clear H
          go_upto_if 25 with (fail)
          go_cut [8] (fun v8 wc => ∃ (kq : Nat) (x8_9 : Int), v8 = .int .i64 x8_9 ∧ Aside0 (insolvencyref1_AddDays.j1 kq a1 l2 x8_9 = some (r1, r2)) ∧ Aside0 (kq ≤ kj4) ∧ Drawn0 w wc)
          case first =>
            have H := HC10.out
            clear HC10
            by_cases c11 : a1 > 0
            · rw [if_pos c11] at H
              have c11b0 : decide (0 < a1) = true := decide_eq_true c11
              clear c11
              (first | rw [c11b0] | (simp only [i64_w, i32_w]; rw [c11b0]) | skip)
              have H' := Aside0.mk H
              clear H
              go_wp2
              go_meet
              case rel => exact ⟨_, (wrap64 (a0 + 1)), (by first | rfl | (simp; done) | (simp [*]; done)), H', ⟨by have := HJ4.out; first | omega | exact Nat.le_refl _⟩, by repeat (first | exact Drawn0.refl _ | apply Drawn0.step)⟩
            · rw [if_neg c11] at H
              have c11b0 : decide (0 < a1) = false := decide_eq_false c11
              clear c11
              (first | rw [c11b0] | (simp only [i64_w, i32_w]; rw [c11b0]) | skip)
              have H' := Aside0.mk H
              clear H
              go_wp2
              go_meet
              case rel => exact ⟨_, (a0), (by first | rfl | (simp; done) | (simp [*]; done)), H', ⟨by have := HJ4.out; first | omega | exact Nat.le_refl _⟩, by repeat (first | exact Drawn0.refl _ | apply Drawn0.step)⟩
          case rest =>
            clear HC10
            try clear c1
            try clear c2
            try clear p2
            try clear c4
            try clear c4b0
            try clear c4b1
            try clear c6
            try clear p6
            try clear c7
            try clear c8
            try clear c8b0
            try clear c9
            try clear c11
            try clear c11b0
            try clear p2
            obtain ⟨kq, x8_9, rfl, HA, HJ9, ⟨mc9, rfl⟩⟩ := hcut
            cases kq with
            | zero => exact absurd HA.out (by simp [insolvencyref1_AddDays.j1])
            | succ kj9 =>
              have H := HA.out
              clear HA
              simp only [insolvencyref1_AddDays.j1] at H
              have H' := Aside0.mk H
              clear H
              go_wp2
              go_loopg [1, 8] kj9 (fun kq v1 v8 w' => ∃ (x1_3 : Int) (x8_3 : Int), v1 = .int .i64 x1_3 ∧ v8 = .int .i64 x8_3 ∧ Aside0 (insolvencyref1_AddDays.l0 kq x1_3 l2 x8_3 = some (r1, r2)) ∧ Aside0 (kq ≤ kj9) ∧ Drawn0 w w')
              case atStart => exact ⟨(a1), (x8_9), (by first | rfl | (simp; done) | (simp [*]; done)), (by first | rfl | (simp; done) | (simp [*]; done)), H', ⟨Nat.le_refl _⟩, by repeat (first | exact Drawn0.refl _ | apply Drawn0.step)⟩
              case round =>
                clear H'
                try clear c1
                try clear c2
                try clear p2
                try clear c4
                try clear c4b0
                try clear c4b1
                try clear c6
                try clear p6
                try clear c7
                try clear c8
                try clear c8b0
                try clear c9
                try clear c11
                try clear c11b0
                try clear p2
                try clear p6
                obtain ⟨x1_3, x8_3, rfl, rfl, HA, HK3, ⟨m3, rfl⟩⟩ := hrel
                cases gk with
                | zero => exact absurd HA.out (by simp [insolvencyref1_AddDays.l0])
                | succ k3 =>
                  have H := HA.out
                  clear HA
                  simp only [insolvencyref1_AddDays.l0] at H
                  by_cases c12 : x8_3 ≤ 1048576
                  · rw [if_pos c12] at H
                    have c12b0 : decide (x8_3 ≤ 1048576) = true := decide_eq_true c12
                    clear c12
                    replace H := Option.bind_eq_some_iff.mp H
                    obtain ⟨t126, A130, H⟩ := H
                    replace H : (if t126 = true then (if x1_3 ≤ 1 then (some (x8_3, 0)) else (insolvencyref1_AddDays.l0 k3 (wrap64 (x1_3 - 1)) l2 (wrap64 (x8_3 + 1)))) else (insolvencyref1_AddDays.l0 k3 x1_3 l2 (wrap64 (x8_3 + 1)))) = some (r1, r2) := H
                    have A13 := Aside0.mk A130
                    clear A130
                    by_cases c14 : t126 = true
                    · subst c14
                      have H1 : (if x1_3 ≤ 1 then (some (x8_3, 0)) else (insolvencyref1_AddDays.l0 k3 (wrap64 (x1_3 - 1)) l2 (wrap64 (x8_3 + 1)))) = some (r1, r2) := by rw [if_pos rfl] at H; exact H
                      clear H
                      have H := H1
                      clear H1
                      by_cases c15 : x1_3 ≤ 1
                      · rw [if_pos c15] at H
                        have c15b0 : decide (x1_3 ≤ 1) = true := decide_eq_true c15
                        clear c15
                        simp only [Option.some.injEq, Prod.mk.injEq] at H
                        obtain ⟨rfl, rfl⟩ := H
                        go_wp2_with (first | ((with_reducible refine gate_callee (f := 70) rfl ?_); refine goesL_ (some 34) rfl rfl Try.func70 (by kernel_rfl) rfl #[.int .i64 x8_3, .slice A2 l2.length c2] rfl (by (try simp only [List.map_toArray, List.map_cons, List.map_nil]); first | done | rfl | (simp only [List.length_drop, List.length_take]; rfl)) ?_; (with_reducible refine (insolvencyref1_IsBusiness.calls k3 x8_3 _ _ l2 true _ ?side1 ?side2 A13.out).mono ?_); (case side1 => repeat (first | exact HR2.out | (with_reducible refine Kd.C_alloc ?_ _) | (with_reducible refine Kd.C_drewN ?_ _) | (with_reducible refine Kd.C_drew ?_))); (case side2 => exact HC2.out); rintro e w' ⟨rfl, ⟨nd, rfl⟩⟩; refine ⟨_, rfl, ?_⟩))
                        go_ret2
                        exact ⟨by first | rfl | (simp; done) | (simp [*]; done), by repeat (first | exact Drawn0.refl _ | apply Drawn0.step)⟩
                      · rw [if_neg c15] at H
                        have c15b0 : decide (x1_3 ≤ 1) = false := decide_eq_false c15
                        clear c15
                        have H' := Aside0.mk H
                        clear H
                        go_wp2_with (first | ((with_reducible refine gate_callee (f := 70) rfl ?_); refine goesL_ (some 34) rfl rfl Try.func70 (by kernel_rfl) rfl #[.int .i64 x8_3, .slice A2 l2.length c2] rfl (by (try simp only [List.map_toArray, List.map_cons, List.map_nil]); first | done | rfl | (simp only [List.length_drop, List.length_take]; rfl)) ?_; (with_reducible refine (insolvencyref1_IsBusiness.calls k3 x8_3 _ _ l2 true _ ?side1 ?side2 A13.out).mono ?_); (case side1 => repeat (first | exact HR2.out | (with_reducible refine Kd.C_alloc ?_ _) | (with_reducible refine Kd.C_drewN ?_ _) | (with_reducible refine Kd.C_drew ?_))); (case side2 => exact HC2.out); rintro e w' ⟨rfl, ⟨nd, rfl⟩⟩; refine ⟨_, rfl, ?_⟩))
                        go_roundg k3
                        case measure => have := HJ4.out; have := HJ9.out; have := HK3.out; omega
                        case rel => exact ⟨(wrap64 (x1_3 - 1)), (wrap64 (x8_3 + 1)), (by first | rfl | (simp; done) | (simp [*]; done)), (by first | rfl | (simp; done) | (simp [*]; done)), H', ⟨by have := HJ4.out; have := HJ9.out; have := HK3.out; omega⟩, by repeat (first | exact Drawn0.refl _ | apply Drawn0.step)⟩
                    · replace c14 := Bool.eq_false_iff.mpr c14
                      subst c14
                      have H1 : (insolvencyref1_AddDays.l0 k3 x1_3 l2 (wrap64 (x8_3 + 1))) = some (r1, r2) := by rw [if_neg (show ¬ (false = true) by decide)] at H; exact H
                      clear H
                      have H := H1
                      clear H1
                      have H' := Aside0.mk H
                      clear H
                      go_wp2_with (first | ((with_reducible refine gate_callee (f := 70) rfl ?_); refine goesL_ (some 34) rfl rfl Try.func70 (by kernel_rfl) rfl #[.int .i64 x8_3, .slice A2 l2.length c2] rfl (by (try simp only [List.map_toArray, List.map_cons, List.map_nil]); first | done | rfl | (simp only [List.length_drop, List.length_take]; rfl)) ?_; (with_reducible refine (insolvencyref1_IsBusiness.calls k3 x8_3 _ _ l2 false _ ?side1 ?side2 A13.out).mono ?_); (case side1 => repeat (first | exact HR2.out | (with_reducible refine Kd.C_alloc ?_ _) | (with_reducible refine Kd.C_drewN ?_ _) | (with_reducible refine Kd.C_drew ?_))); (case side2 => exact HC2.out); rintro e w' ⟨rfl, ⟨nd, rfl⟩⟩; refine ⟨_, rfl, ?_⟩))
                      go_roundg k3
                      case measure => have := HJ4.out; have := HJ9.out; have := HK3.out; omega
                      case rel => exact ⟨(x1_3), (wrap64 (x8_3 + 1)), (by first | rfl | (simp; done) | (simp [*]; done)), (by first | rfl | (simp; done) | (simp [*]; done)), H', ⟨by have := HJ4.out; have := HJ9.out; have := HK3.out; omega⟩, by repeat (first | exact Drawn0.refl _ | apply Drawn0.step)⟩
                  · rw [if_neg c12] at H
                    have c12b0 : decide (x8_3 ≤ 1048576) = false := decide_eq_false c12
                    clear c12
                    simp only [Option.some.injEq, Prod.mk.injEq] at H
                    obtain ⟨rfl, rfl⟩ := H
                    go_wp2
                    go_ret2
                    exact ⟨by first | rfl | (simp; done) | (simp [*]; done), by repeat (first | exact Drawn0.refl _ | apply Drawn0.step)⟩
end Go.Proofs.Ytpfiecjacpbhkaa.F

namespace Go.Proofs.Ytpfiecjacpbhkaa.D
open Go.RowKit Go.Proofs.YtpfiecjacpbhkaaW.PrintWords Go.Proofs.YtpfiecjacpbhkaaW.PrintLast Go.Proofs.YtpfiecjacpbhkaaW.PrintMore
set_option linter.unusedVariables false
set_option linter.unusedSimpArgs false
set_option maxHeartbeats 8000000 in
set_option maxRecDepth 100000 in
theorem matterOf_calls (d a p : Int) (v : Value) (A : Option Addr) (c : Nat) (l : List S50) (x : Int) (w : World) (hlen : l.length < 4611686018427387904) (hr : Kd.C k50 w A l.length l) :
    Calls Try.prog 47 #[.agg #[.int .i64 d, .int .i64 a, .int .i64 p, v, .slice A l.length c], .int .i64 x] w fun e w' => e = .returned (.int .i64 (fnd x l 0)) ∧ Below w.heap.size w w' := by
  have hu := Try.underlying30
  have hu2 := Try.underlying50
  have HR := Aside0.mk hr
  obtain ⟨r, hr⟩ : ∃ r, fnd x l 0 = r := ⟨_, rfl⟩
  rw [hr]
  have R0 := Aside0.mk hr
  clear hr
  have B0 : Below w.heap.size w (w.alloc (.cells #[.int .i64 d, .int .i64 a, .int .i64 p, v, .slice A l.length c] 30 (0, 0))) := below_alloc (Below.refl _ _) _
  have K0 := blk_new w (.cells #[.int .i64 d, .int .i64 a, .int .i64 p, v, .slice A l.length c] 30 (0, 0))
  go_enter Try.func47, Try.ntmps47
  go_wp2_with (fail)
  generalize w.alloc (.cells #[.int .i64 d, .int .i64 a, .int .i64 p, v, .slice A l.length c] 30 (0, 0)) = W0 at *
  have HB0 := Aside0.mk B0
  have HK0 := Aside0.mk K0
  clear B0 K0
  go_loopg [5] (l.length) (fun kx s5 wr => ∃ (j : Nat), s5 = .int .i64 j ∧ j ≤ l.length ∧ l.length - j ≤ kx ∧ Aside0 (fnd x (l.drop j) j = r) ∧ Aside0 (Below w.heap.size w wr) ∧ Aside0 (wr.heap[w.heap.size]? = some (.cells #[.int .i64 d, .int .i64 a, .int .i64 p, v, .slice A l.length c] 30 (0, 0))))
  case atStart => exact ⟨0, rfl, Nat.zero_le _, by omega, ⟨by simpa using R0.out⟩, HB0, HK0⟩
  case round =>
    obtain ⟨j, rfl, hj, hk, I, HB, HK⟩ := hrel
    clear HB0 HK0 R0
    have o4 : wr.cell? ⟨w.heap.size, 4, none⟩ = some (.slice A l.length c) := (blk_cell HK.out 4).trans rfl
    by_cases hlt : j < l.length
    · obtain ⟨k1, rfl⟩ : ∃ m, gk = m + 1 := ⟨gk - 1, by omega⟩
      have hd : decide ((j : Int) < (l.length : Int)) = true := decide_eq_true (by omega)
      have p0 : 0 ≤ (j : Int) := Int.natCast_nonneg j
      have q0 : (j : Int) < (l.length : Int) := by omega
      have er : rd_T50 l (j : Int) = l[j] := by
        unfold rd_T50
        rw [Int.toNat_natCast, List.getD_eq_getElem?_getD, List.getElem?_eq_getElem hlt]
        rfl
      have I2 := I.out
      rw [List.drop_eq_getElem_cons hlt, fnd] at I2
      clear I
      obtain ⟨ad, ea, h0, h1, h2, h3, h4⟩ := at_T50 HR.out (j : Int) p0 q0
      cases ea
      rw [er, Int.toNat_natCast] at h0
      replace h0 := (HB.out.cell (World.block_lt_of_cell? w _ h0)).trans h0
      have HW := Aside0.mk (show wrap64 ((j : Int) + 1) = ((j + 1 : Nat) : Int) by unfold wrap64; omega)
      generalize l[j] = y at *
      have p1 := eq_true p0
      have q1 := eq_true q0
      clear p0 q0 h1 h2 h3 h4
      by_cases hy : y.f0 = x
      · rw [if_pos hy] at I2
        have hb0 : (y.f0 == x) = true := by simpa using hy
        subst I2
        clear hy
        go_wp2
        go_ret
        exact ⟨rfl, HB.out⟩
      · rw [if_neg hy] at I2
        have hb0 : (y.f0 == x) = false := by simpa using hy
        have I3 := Aside0.mk I2
        clear I2 hy
        go_wp2
        go_roundg k1
        case measure => omega
        case rel => exact ⟨j + 1, by first | (rw [HW.out]; done) | (simp only [HW.out]; done) | go_num, by omega, by omega, I3, HB, HK⟩
    · have ej : j = l.length := by omega
      subst ej
      have I2 := I.out
      rw [List.drop_length, fnd] at I2
      subst I2
      have hd : decide ((l.length : Int) < (l.length : Int)) = false := decide_eq_false (by omega)
      go_wp2
      go_ret
      exact ⟨rfl, HB.out⟩
set_option maxHeartbeats 8000000 in
set_option maxRecDepth 100000 in
theorem required_calls (kind : Int) (w : World) (hk : 2 ≤ kind ∧ kind ≤ 6) : Calls Try.prog 48 #[.int .i64 kind] w fun e w' => e = .returned (.int .i64 (kind - 1)) ∧ Below w.heap.size w w' := by
  have B0 : Below w.heap.size w (w.alloc (.cells #[.int .i64 0, .int .i64 0, .int .i64 1, .int .i64 2, .int .i64 3, .int .i64 4, .int .i64 5] 3 (0, 0))) := below_alloc (Below.refl _ _) _
  have hu := Try.underlying25
  have hkk : kind = 2 ∨ kind = 3 ∨ kind = 4 ∨ kind = 5 ∨ kind = 6 := by omega
  rcases hkk with rfl | rfl | rfl | rfl | rfl
  all_goals go_enter Try.func48, Try.ntmps48
  all_goals go_wp2
  all_goals go_ret
  all_goals exact ⟨rfl, B0⟩
set_option maxHeartbeats 8000000 in
set_option maxRecDepth 100000 in
theorem opened_err (g : Nat) (d a p : Int) (hv : Value) (A : Option Addr) (c : Nat) (l : List S50) (id : Int) (w : World) (hlen : l.length ≤ c) (hl2 : l.length < 4611686018427387904)
    (hb : w.heap[g]? = some (.cells #[.int .i64 d, .int .i64 a, .int .i64 p, hv, .slice A l.length c] 30 (0, 0))) (hr : Kd.C k50 w A l.length l) (he : (openF l id).2 ≠ 0) :
    Calls Try.prog 46 #[.pointer (some ⟨g, 0, none⟩), .int .i64 id] w fun e w' => e = .returned (.int .i64 (openF l id).2) ∧ Below w.heap.size w w' := by
  have hu := Try.underlying30
  obtain ⟨o0, o1, o2, o3, hc4⟩ := cells5 ⟨hb⟩
  have HR := Aside0.mk hr
  clear hr
  unfold openF at he ⊢
  by_cases h1 : id < 0
  · rw [if_pos h1]
    have hd : decide (id < 0) = true := decide_eq_true h1
    go_enter Try.func46, Try.ntmps46
    go_wp2
    go_ret
    exact ⟨rfl, Below.refl _ _⟩
  · rw [if_neg h1] at he ⊢
    have hd : decide (id < 0) = false := decide_eq_false h1
    have hf := matterOf_calls d a p hv A c l id w hl2 HR.out
    generalize fnd id l 0 = q at *
    by_cases h2 : 0 ≤ q
    · rw [if_pos h2]
      have hd2 : decide (0 ≤ q) = true := decide_eq_true h2
      go_enter Try.func46, Try.ntmps46
      go_wp2_with (go_at_call 47; refine hf.mono ?_; rintro e w' ⟨rfl, hbl⟩)
      go_ret
      exact ⟨rfl, hbl⟩
    · rw [if_neg h2] at he ⊢
      have hd2 : decide (0 ≤ q) = false := decide_eq_false h2
      by_cases h3 : (l.length : Int) ≥ 32
      · rw [if_pos h3]
        have hd3 : decide ((32 : Int) ≤ (l.length : Int)) = true := decide_eq_true h3
        go_enter Try.func46, Try.ntmps46
        go_wp2_with (go_at_call 47; refine hf.mono ?_; rintro e w' ⟨rfl, hbl⟩; have hc5 := pw_cell_below hbl hc4)
        go_ret
        exact ⟨rfl, hbl⟩
      · rw [if_neg h3] at he
        exact absurd rfl he
set_option maxHeartbeats 8000000 in
set_option maxRecDepth 100000 in
theorem opened_ok (g : Nat) (d a p : Int) (hv u : Value) (l : List S50) (id : Int) (w0 w : World) (hB : Below w0.heap.size w0 w) (hg : w0.heap.size ≤ g)
    (hb : w.heap[g]? = some (.cells #[.int .i64 d, .int .i64 a, .int .i64 p, hv, u] 30 (0, 0))) (ho : Kd.R k50 50 w w0.heap.size (fun _ => True) u l) (he : (openF l id).2 = 0) :
    Calls Try.prog 46 #[.pointer (some ⟨g, 0, none⟩), .int .i64 id] w fun e w' => ∃ u', e = .returned (.int .i64 0) ∧ w'.heap[g]? = some (.cells #[.int .i64 d, .int .i64 a, .int .i64 p, hv, u'] 30 (0, 0)) ∧
      Kd.R k50 50 w' w0.heap.size (fun _ => True) u' (openF l id).1 ∧ Below w0.heap.size w0 w' ∧ (∀ k, k < w.heap.size → k ≠ g → some k ≠ u.ownBlock → w'.heap[k]? = w.heap[k]?) := by
  have hu := Try.underlying30
  have hu2 := Try.underlying50
  have hu3 := Try.underlying28
  obtain ⟨A, c, rfl⟩ := Kd.R_slice ho
  have hC := (Kd.R_reads' ho).2
  obtain ⟨o0, o1, o2, o3, hc4⟩ := cells5 ⟨hb⟩
  unfold openF at he ⊢
  by_cases h1 : id < 0
  · rw [if_pos h1] at he; cases he
  rw [if_neg h1] at he ⊢
  by_cases h2 : 0 ≤ fnd id l 0
  · rw [if_pos h2] at he; cases he
  rw [if_neg h2] at he ⊢
  by_cases h3 : (l.length : Int) ≥ 32
  · rw [if_pos h3] at he; cases he
  rw [if_neg h3] at he ⊢
  clear he
  have hf := matterOf_calls d a p hv A c l id w (by omega) hC.2
  have hd : decide (id < 0) = false := decide_eq_false h1
  have hd2 : decide (0 ≤ fnd id l 0) = false := decide_eq_false h2
  have hd3 : decide ((32 : Int) ≤ (l.length : Int)) = false := decide_eq_false h3
  generalize fnd id l 0 = q at *
  have HO := Aside0.mk ho
  have HL : l.length < 32 := by omega
  have BK := Aside0.mk hb
  have HBB := Aside0.mk hB
  clear ho hC hb hB h1 h2 h3
  go_enter Try.func46, Try.ntmps46
  go_wp2_with (first | (go_at_call 47; refine hf.mono ?_; rintro e w1 ⟨rfl, hbl⟩; have hc5 := pw_cell_below hbl hc4; have HO1 := Aside0.mk (Kd.R_below HO.out hbl); have BK1 := Aside0.mk (blk_below BK.out hbl); have HB1 := Aside0.mk (below_then HBB.out HBB.out.size hbl)) | ((with_reducible refine gate_builtin (b := .append) (xs := #[.tmp 23, .tmp 26]) rfl ?_); at_builtin; refine Kd.R_append k50 (w0 := w0) w0.heap.size rfl (.tmp 23) (.tmp 26) 28 50 (.agg #[(.int .i64 0), (.int .i64 0), (.int .i64 0), (.int .i64 0), (.bool false)]) 40 rfl Try.underlying28 info50 rfl (by decide) (by omega) _ l (⟨id, 1, 0, 0, false⟩ : S50) [.int .i64 id, .int .i64 1, .int .i64 0, .int .i64 0, .bool false] (fun _ => True) (fun _ => False) rfl rfl ?aP (fun _ hk => hk.elim) ?aF ?aO ?aB ?aS ?aL ?_; (case aP => exact k50_mkM _ _ _ (⟨id, 1, 0, 0, false⟩ : S50)); (case aB => exact HB1.out); (case aF => exact (fun _ _ => trivial)); (case aO => exact HO1.out); (case aS => exact HB1.out.size); (case aL => omega); intro v2 w2 ho2 hb2 hgr hat; obtain ⟨A2, c2, rfl⟩ := Kd.R_slice ho2; have hne : some g ≠ (Value.slice A l.length c).ownBlock := Kd.R_ne HO1.out BK1.out (by decide); have BK2 := blk_grown BK1.out hgr hne; have hz4 := (blk_cell BK2 4).trans rfl; have hy4 := blk_frozen BK2 4))
  go_ret
  simp only [List.length_append, List.length_cons, List.length_nil, Nat.zero_add] at ho2
  refine ⟨_, rfl, blk_put BK2 4 _ rfl, Kd.R_mono (Kd.R_far (p := ⟨g, 4, none⟩) (Kd.R_types ho2 BK2 (by decide)) (fun _ hk => hk.2) _) (fun _ _ => trivial), hb2.setCell hg _, fun k hk hkg hku => ?_⟩
  rw [Below.heap_setCell w2 ⟨g, 4, none⟩ _ k hkg, hgr.block k (Nat.lt_of_lt_of_le hk hbl.size) hku]
  exact hbl.block k hk
def RAddAt (w : World) (day n : Int) (v : Value) (ad : Int × Int) : Prop :=
  ∀ w1, Below w.heap.size w w1 → Calls Try.prog 61 #[.int .i64 day, .int .i64 n, v] w1 fun e w2 => e = .returned (.tuple #[.int .i64 ad.1, .int .i64 ad.2]) ∧ Below w1.heap.size w1 w2
theorem option_some (o : Int) (w : World) : Calls Try.prog 59 #[.int .i64 o] w fun e w' => e = .returned (.bool (decide (0 ≤ o ∧ o < 4))) ∧ Below w.heap.size w w' := by
  refine (insolvencyref33_option.calls o (decide (0 ≤ o ∧ o < 4)) w ?_).mono (fun e w' ⟨h1, h2⟩ => ⟨h1, h2.below⟩)
  unfold insolvencyref33_option.f
  by_cases h : o ≥ 0
  · rw [if_pos h]
    by_cases h2 : o < 4
    · simp [h2, h]
    · simp [h2]
  · rw [if_neg h]
    simp; omega
set_option maxHeartbeats 8000000 in
set_option maxRecDepth 100000 in
theorem rchange_opt (b o gO : Nat) (kind day id opt : Int) (w : World) (hk : kind = 4 ∨ kind = 6) (ho : ¬ (0 ≤ opt ∧ opt < 4)) :
    Calls Try.prog 49 #[.pointer (some ⟨gO, 0, none⟩), .pointer (some ⟨b, o, none⟩), .agg #[.int .i64 kind, .int .i64 day, .int .i64 id, .int .i64 opt]] w fun e w' => e = .returned (.int .i64 41) ∧ Below w.heap.size w w' := by
  have hu := Try.underlying47
  have B1 : Below w.heap.size w (w.alloc (.cells #[.int .i64 kind, .int .i64 day, .int .i64 id, .int .i64 opt] 47 (0, 0))) := below_alloc (Below.refl _ _) _
  have hop := fun w' => option_some opt w'
  rw [decide_eq_false ho] at hop
  rcases hk with rfl | rfl
  all_goals go_enter Try.func49, Try.ntmps49
  all_goals go_wp2_with (go_at_call 59; refine (hop _).mono ?_; rintro e w2 ⟨rfl, hb⟩)
  all_goals go_ret
  all_goals exact ⟨rfl, below_step B1 hb⟩
set_option maxHeartbeats 8000000 in
set_option maxRecDepth 100000 in
theorem rchange_add (b o gO : Nat) (kind day id opt d ans app : Int) (v u : Value) (ad : Int × Int) (w : World) (hk : kind = 2 ∨ kind = 4 ∧ 0 ≤ opt ∧ opt < 4)
    (hO : w.heap[gO]? = some (.cells #[.int .i64 d, .int .i64 ans, .int .i64 app, v, u] 30 (0, 0))) (ha : RAddAt w day (if kind = 2 then ans else app) v ad) (he : ad.2 ≠ 0) :
    Calls Try.prog 49 #[.pointer (some ⟨gO, 0, none⟩), .pointer (some ⟨b, o, none⟩), .agg #[.int .i64 kind, .int .i64 day, .int .i64 id, .int .i64 opt]] w fun e w' => e = .returned (.int .i64 ad.2) ∧ Below w.heap.size w w' := by
  have hu := Try.underlying47
  have hu2 := Try.underlying27
  have hu3 := Try.underlying30
  have B1 : Below w.heap.size w (w.alloc (.cells #[.int .i64 kind, .int .i64 day, .int .i64 id, .int .i64 opt] 47 (0, 0))) := below_alloc (Below.refl _ _) _
  have K1 := blk_new w (.cells #[.int .i64 kind, .int .i64 day, .int .i64 id, .int .i64 opt] 47 (0, 0))
  have he2 : (ad.2 != 0) = true := by simpa using he
  obtain ⟨a1, a2⟩ := ad
  have KO := blk_below hO B1
  obtain ⟨f0, f1, f2, f3⟩ := cells4 ⟨K1⟩
  obtain ⟨o0, o1, o2, o3, o4⟩ := cells5 ⟨KO⟩
  rcases hk with rfl | ⟨rfl, hk0, hk1⟩
  · rw [if_pos rfl] at ha
    go_enter Try.func49, Try.ntmps49
    go_upto_region 9 with (fail)
    generalize w.alloc (.cells #[.int .i64 2, .int .i64 day, .int .i64 id, .int .i64 opt] 47 (0, 0)) = W1 at *
    have hA := ha W1.drew (below_drew1 B1)
    have B2 := below_drew1 B1
    clear ha he hO
    go_region_held3 (fun w_ => w_.cell? ⟨w.heap.size, 1, none⟩ = some (.int .i64 day) ∧ w_.cell? ⟨gO, 3, none⟩ = some v) (first | exact ⟨f1, o3⟩ | exact ⟨f1', o3'⟩ | go_keep) (first | (go_at_call 61; refine hA.mono ?_; rintro e w2 ⟨rfl, hb⟩; have f1' := pw_cell_below hb (show W1.drew.cell? _ = _ from f1); have o3' := pw_cell_below hb (show W1.drew.cell? _ = _ from o3)))
    go_wp2
    go_ret
    exact ⟨rfl, below_step B2 hb⟩
  · rw [if_neg (by decide)] at ha
    have hop := option_some opt (w.alloc (.cells #[.int .i64 4, .int .i64 day, .int .i64 id, .int .i64 opt] 47 (0, 0)))
    rw [decide_eq_true (⟨hk0, hk1⟩ : 0 ≤ opt ∧ opt < 4)] at hop
    go_enter Try.func49, Try.ntmps49
    go_upto_region 9 with (go_at_call 59; refine hop.mono ?_; rintro e w2 ⟨rfl, hb⟩; have f0' := pw_cell_below hb f0; have f1' := pw_cell_below hb f1; have f3' := pw_cell_below hb f3; have o1' := pw_cell_below hb o1; have o2' := pw_cell_below hb o2; have o3' := pw_cell_below hb o3)
    have B2 := below_step B1 hb
    have hA := ha w2.drew (below_drew1 B2)
    have B3 := below_drew1 B2
    clear ha he hO hop
    go_region_held3 (fun w_ => w_.cell? ⟨w.heap.size, 1, none⟩ = some (.int .i64 day) ∧ w_.cell? ⟨gO, 3, none⟩ = some v) (first | exact ⟨f1', o3'⟩ | exact ⟨f1'', o3''⟩ | go_keep) (first | (go_at_call 61; refine hA.mono ?_; rintro e w3 ⟨rfl, hb3⟩; have f1'' := pw_cell_below hb3 (show w2.drew.cell? _ = _ from f1'); have o3'' := pw_cell_below hb3 (show w2.drew.cell? _ = _ from o3')))
    go_wp2
    go_ret
    exact ⟨rfl, below_step B3 hb3⟩
def rchgM (m : S50) (kind due opt : Int) : S50 := ⟨m.f0, kind, if kind = 6 then m.f2 else due, if kind = 4 ∨ kind = 6 then opt else m.f3, m.f4⟩
def RPost (w0 w : World) (g cap : Nat) (ms ms' : List S50) (ok : Nat → Prop) (w' : World) : Prop :=
  Kd.R k50 50 w' w0.heap.size ok (.slice (some ⟨g, 0, none⟩) ms.length cap) ms' ∧ Below w0.heap.size w0 w' ∧ ∀ k, k < w.heap.size → k ≠ g → w'.heap[k]? = w.heap[k]?
section
variable {g cap : Nat} {ok : Nat → Prop} {ms : List S50} {w0 w V : World}
theorem rfin (hB : Below w0.heap.size w0 w) (hg0 : w0.heap.size ≤ g) (hBV : Below w.heap.size w V) (hr : Kd.R k50 50 V w0.heap.size ok (.slice (some ⟨g, 0, none⟩) ms.length cap) ms) (i : Int) (h0 : 0 ≤ i) (h1 : i < ms.length) (m : S50) (hm : rd_T50 ms i = m) (due opt : Int) :
    RPost w0 w g cap ms (ms.set i.toNat (rchgM m 2 due opt)) ok ((V.setCell ⟨g, i.toNat * 5 + 2, none⟩ (.int .i64 due)).setCell ⟨g, i.toNat * 5 + 1, none⟩ (.int .i64 2)) ∧
    RPost w0 w g cap ms (ms.set i.toNat (rchgM m 4 due opt)) ok ((((V.setCell ⟨g, i.toNat * 5 + 2, none⟩ (.int .i64 due)).setCell ⟨g, i.toNat * 5 + 1, none⟩ (.int .i64 2)).setCell ⟨g, i.toNat * 5 + 1, none⟩ (.int .i64 4)).setCell ⟨g, i.toNat * 5 + 3, none⟩ (.int .i64 opt)) := by
  have hV : Below w0.heap.size w0 V := below_then hB hB.size hBV
  have a1 := put2 hr i h0 h1 m hm due
  have a2 := put1 a1.1 i h0 h1 _ (rd_set ms i _ h0 h1) 2
  rw [List.set_set] at a2
  have a3 := put1 a2.1 i h0 h1 _ (rd_set ms i _ h0 h1) 4
  rw [List.set_set] at a3
  have a4 := put3 a3.1 i h0 h1 _ (rd_set ms i _ h0 h1) opt
  rw [List.set_set] at a4
  refine ⟨⟨a2.1, (hV.setCell hg0 _).setCell hg0 _, fun k hk hn => ?_⟩, ⟨a4.1, (((hV.setCell hg0 _).setCell hg0 _).setCell hg0 _).setCell hg0 _, fun k hk hn => ?_⟩⟩
  · rw [Below.heap_setCell _ _ _ k hn, Below.heap_setCell _ _ _ k hn]
    exact hBV.block k hk
  · rw [Below.heap_setCell _ _ _ k hn, Below.heap_setCell _ _ _ k hn, Below.heap_setCell _ _ _ k hn, Below.heap_setCell _ _ _ k hn]
    exact hBV.block k hk
theorem rfin2 (hB : Below w0.heap.size w0 w) (hg0 : w0.heap.size ≤ g) (hBV : Below w.heap.size w V) (hr : Kd.R k50 50 V w0.heap.size ok (.slice (some ⟨g, 0, none⟩) ms.length cap) ms) (i : Int) (h0 : 0 ≤ i) (h1 : i < ms.length) (m : S50) (hm : rd_T50 ms i = m) (opt : Int) :
    RPost w0 w g cap ms (ms.set i.toNat (rchgM m 3 0 opt)) ok ((V.setCell ⟨g, i.toNat * 5 + 1, none⟩ (.int .i64 3)).setCell ⟨g, i.toNat * 5 + 2, none⟩ (.int .i64 0)) ∧
    RPost w0 w g cap ms (ms.set i.toNat (rchgM m 5 0 opt)) ok ((V.setCell ⟨g, i.toNat * 5 + 1, none⟩ (.int .i64 5)).setCell ⟨g, i.toNat * 5 + 2, none⟩ (.int .i64 0)) ∧
    RPost w0 w g cap ms (ms.set i.toNat (rchgM m 6 0 opt)) ok ((V.setCell ⟨g, i.toNat * 5 + 1, none⟩ (.int .i64 6)).setCell ⟨g, i.toNat * 5 + 3, none⟩ (.int .i64 opt)) := by
  have hV : Below w0.heap.size w0 V := below_then hB hB.size hBV
  have a1 := fun s => put1 hr i h0 h1 m hm s
  have a2 := fun s => put2 (a1 s).1 i h0 h1 _ (rd_set ms i _ h0 h1) 0
  have a3 := put3 (a1 6).1 i h0 h1 _ (rd_set ms i _ h0 h1) opt
  simp only [List.set_set] at a2 a3
  refine ⟨⟨(a2 3).1, (hV.setCell hg0 _).setCell hg0 _, fun k hk hn => ?_⟩, ⟨(a2 5).1, (hV.setCell hg0 _).setCell hg0 _, fun k hk hn => ?_⟩, ⟨a3.1, (hV.setCell hg0 _).setCell hg0 _, fun k hk hn => ?_⟩⟩
  all_goals rw [Below.heap_setCell _ _ _ k hn, Below.heap_setCell _ _ _ k hn]
  all_goals exact hBV.block k hk
end
set_option maxHeartbeats 8000000 in
set_option maxRecDepth 100000 in
theorem rchange_ok (g gO : Nat) (i : Int) (cap : Nat) (ms : List S50) (ok : Nat → Prop) (kind day id opt d ans app : Int) (v u : Value) (ad : Int × Int) (w0 w : World) (hB : Below w0.heap.size w0 w) (h0 : 0 ≤ i) (h1 : i < ms.length)
    (hk : kind = 2 ∨ kind = 3 ∨ kind = 4 ∧ 0 ≤ opt ∧ opt < 4 ∨ kind = 5 ∨ kind = 6 ∧ 0 ≤ opt ∧ opt < 4)
    (hO : w.heap[gO]? = some (.cells #[.int .i64 d, .int .i64 ans, .int .i64 app, v, u] 30 (0, 0)))
    (hr : Kd.R k50 50 w w0.heap.size ok (.slice (some ⟨g, 0, none⟩) ms.length cap) ms)
    (ha : if kind = 2 ∨ kind = 4 then RAddAt w day (if kind = 2 then ans else app) v ad else ad = (0, 0)) (he : ad.2 = 0) :
    Calls Try.prog 49 #[.pointer (some ⟨gO, 0, none⟩), .pointer (some ⟨g, i.toNat * 5, none⟩), .agg #[.int .i64 kind, .int .i64 day, .int .i64 id, .int .i64 opt]] w fun e w' => e = .returned (.int .i64 0) ∧ RPost w0 w g cap ms (ms.set i.toNat (rchgM (rd_T50 ms i) kind ad.1 opt)) ok w' := by
  have hu := Try.underlying47
  have hu2 := Try.underlying27
  have hu3 := Try.underlying30
  have hu4 := Try.underlying50
  have hg0 : w0.heap.size ≤ g := by
    rcases Kd.R_base2 hr with h | ⟨k, h, hk⟩
    · simp [Value.ownBlock] at h
    · have : g = k := by simpa [Value.ownBlock] using h
      omega
  generalize hm : rd_T50 ms i = m at *
  have B1 : Below w.heap.size w (w.alloc (.cells #[.int .i64 kind, .int .i64 day, .int .i64 id, .int .i64 opt] 47 (0, 0))) := below_alloc (Below.refl _ _) _
  have K1 := blk_new w (.cells #[.int .i64 kind, .int .i64 day, .int .i64 id, .int .i64 opt] 47 (0, 0))
  have KO := blk_below hO B1
  have R1 := Kd.R_below hr B1
  have hgl : g < w.heap.size := World.block_lt_of_cell? w _ (elm hr i h0 h1 m hm).1
  have ng : g ≠ w.heap.size := by omega
  obtain ⟨f0, f1, f2, f3⟩ := cells4 ⟨K1⟩
  obtain ⟨o0, o1, o2, o3, o4⟩ := cells5 ⟨KO⟩
  obtain ⟨a1, a2⟩ := ad
  obtain rfl : a2 = 0 := he
  rcases hk with rfl | rfl | ⟨rfl, hk0, hk1⟩ | rfl | ⟨rfl, hk0, hk1⟩
  · rw [if_pos (.inl rfl), if_pos rfl] at ha
    go_enter Try.func49, Try.ntmps49
    go_upto_region 9 with (fail)
    generalize w.alloc (.cells #[.int .i64 2, .int .i64 day, .int .i64 id, .int .i64 opt] 47 (0, 0)) = W1 at *
    have hA := ha W1.drew (below_drew1 B1)
    have B2 := below_drew1 B1
    have R2 := Kd.R_drew R1
    clear ha hO
    go_region_held3 (fun w_ => w_.cell? ⟨w.heap.size, 0, none⟩ = some (.int .i64 2) ∧ w_.cell? ⟨w.heap.size, 1, none⟩ = some (.int .i64 day) ∧ w_.cell? ⟨gO, 3, none⟩ = some v) (first | exact ⟨f0, f1, o3⟩ | exact ⟨f0', f1', o3'⟩ | go_keep) (first | (go_at_call 61; refine hA.mono ?_; rintro e w2 ⟨rfl, hb⟩; have f0' := pw_cell_below hb (show W1.drew.cell? _ = _ from f0); have f1' := pw_cell_below hb (show W1.drew.cell? _ = _ from f1); have o3' := pw_cell_below hb (show W1.drew.cell? _ = _ from o3)))
    obtain ⟨e1, e2, e3, e4, e5, e6⟩ := elm (Kd.R_below R2 hb) i h0 h1 m hm
    go_wp2
    go_ret
    exact ⟨rfl, (rfin hB hg0 (below_step B2 hb) (Kd.R_below R2 hb) i h0 h1 m hm a1 opt).1⟩
  · rw [if_neg (by decide)] at ha
    obtain ⟨rfl, -⟩ := Prod.mk.inj ha
    obtain ⟨e1, e2, e3, e4, e5, e6⟩ := elm R1 i h0 h1 m hm
    go_enter Try.func49, Try.ntmps49
    go_upto_region 18 with (fail)
    generalize w.alloc (.cells #[.int .i64 3, .int .i64 day, .int .i64 id, .int .i64 opt] 47 (0, 0)) = W1 at *
    go_wp2
    go_ret
    exact ⟨rfl, (rfin2 hB hg0 B1 R1 i h0 h1 m hm opt).1⟩
  · rw [if_pos (.inr rfl), if_neg (by decide)] at ha
    have hop := option_some opt (w.alloc (.cells #[.int .i64 4, .int .i64 day, .int .i64 id, .int .i64 opt] 47 (0, 0)))
    rw [decide_eq_true (⟨hk0, hk1⟩ : 0 ≤ opt ∧ opt < 4)] at hop
    go_enter Try.func49, Try.ntmps49
    go_upto_region 9 with (go_at_call 59; refine hop.mono ?_; rintro e w2 ⟨rfl, hb⟩; have f0' := pw_cell_below hb f0; have f1' := pw_cell_below hb f1; have f3' := pw_cell_below hb f3; have o1' := pw_cell_below hb o1; have o2' := pw_cell_below hb o2; have o3' := pw_cell_below hb o3)
    have B2 := below_step B1 hb
    have hA := ha w2.drew (below_drew1 B2)
    have B3 := below_drew1 B2
    have R2 := Kd.R_drew (Kd.R_below R1 hb)
    clear ha hO hop
    go_region_held3 (fun w_ => w_.cell? ⟨w.heap.size, 0, none⟩ = some (.int .i64 4) ∧ w_.cell? ⟨w.heap.size, 1, none⟩ = some (.int .i64 day) ∧ w_.cell? ⟨w.heap.size, 3, none⟩ = some (.int .i64 opt) ∧ w_.cell? ⟨gO, 3, none⟩ = some v) (first | exact ⟨f0', f1', f3', o3'⟩ | exact ⟨f0'', f1'', f3'', o3''⟩ | go_keep) (first | (go_at_call 61; refine hA.mono ?_; rintro e w3 ⟨rfl, hb3⟩; have f0'' := pw_cell_below hb3 (show w2.drew.cell? _ = _ from f0'); have f1'' := pw_cell_below hb3 (show w2.drew.cell? _ = _ from f1'); have f3'' := pw_cell_below hb3 (show w2.drew.cell? _ = _ from f3'); have o3'' := pw_cell_below hb3 (show w2.drew.cell? _ = _ from o3')))
    obtain ⟨e1, e2, e3, e4, e5, e6⟩ := elm (Kd.R_below R2 hb3) i h0 h1 m hm
    go_wp2
    go_ret
    exact ⟨rfl, (rfin hB hg0 (below_step B3 hb3) (Kd.R_below R2 hb3) i h0 h1 m hm a1 opt).2⟩
  · rw [if_neg (by decide)] at ha
    obtain ⟨rfl, -⟩ := Prod.mk.inj ha
    obtain ⟨e1, e2, e3, e4, e5, e6⟩ := elm R1 i h0 h1 m hm
    go_enter Try.func49, Try.ntmps49
    go_upto_region 21 with (fail)
    generalize w.alloc (.cells #[.int .i64 5, .int .i64 day, .int .i64 id, .int .i64 opt] 47 (0, 0)) = W1 at *
    go_wp2
    go_ret
    exact ⟨rfl, (rfin2 hB hg0 B1 R1 i h0 h1 m hm opt).2.1⟩
  · rw [if_neg (by decide)] at ha
    obtain ⟨rfl, -⟩ := Prod.mk.inj ha
    have hop := option_some opt (w.alloc (.cells #[.int .i64 6, .int .i64 day, .int .i64 id, .int .i64 opt] 47 (0, 0)))
    rw [decide_eq_true (⟨hk0, hk1⟩ : 0 ≤ opt ∧ opt < 4)] at hop
    go_enter Try.func49, Try.ntmps49
    go_wp2_with (go_at_call 59; refine hop.mono ?_; rintro e w2 ⟨rfl, hb⟩; have R2 := Kd.R_below R1 hb; obtain ⟨e1, e2, e3, e4, e5, e6⟩ := elm R2 i h0 h1 m hm; have f0' := pw_cell_below hb f0; have f3' := pw_cell_below hb f3)
    go_ret
    exact ⟨rfl, (rfin2 hB hg0 (below_step B1 hb) R2 i h0 h1 m hm opt).2.2⟩
end Go.Proofs.Ytpfiecjacpbhkaa.D

namespace Go.Proofs.Ytpfiecjacpbhkaa.D
open Go.RowKit Go.Proofs.YtpfiecjacpbhkaaW.PrintWords Go.Proofs.YtpfiecjacpbhkaaW.PrintLast Go.Proofs.YtpfiecjacpbhkaaW.PrintMore
set_option linter.unusedVariables false
set_option linter.unusedSimpArgs false
def ref_File.tail (k : Nat) (day ans app : Int) (hs : List Int) (ms : List S50) (rl : List S52) (kind at_ id opt : Int) : Option Dk :=
  if kind < 1 ∨ 6 < kind then some (dkErr 1)
  else if ms.length < 4611686018427387904 then
    if kind = 1 then if (openF ms id).2 = 0 then some (day, ans, app, hs, (openF ms id).1, rl, 0) else some (dkErr (openF ms id).2)
    else if fnd id ms 0 < 0 then some (dkErr 11)
    else if (rd_T50 ms (fnd id ms 0)).f1 ≠ kind - 1 then some (dkErr 13)
    else if (kind = 4 ∨ kind = 6) ∧ (opt < 0 ∨ 4 ≤ opt) then some (dkErr 41)
    else (if kind = 2 ∨ kind = 4 then F.insolvencyref1_AddDays.f k at_ (if kind = 2 then ans else app) hs else some (0, 0)).bind fun ad =>
      if ad.2 ≠ 0 then some (dkErr ad.2)
      else if kind = 6 then if rl.length < 5864062014805 then some (day, ans, app, hs, ms.set (fnd id ms 0).toNat (rchgM (rd_T50 ms (fnd id ms 0)) kind ad.1 opt), rl ++ [⟨id, at_, opt⟩], 0) else none
      else some (day, ans, app, hs, ms.set (fnd id ms 0).toNat (rchgM (rd_T50 ms (fnd id ms 0)) kind ad.1 opt), rl, 0)
  else none
def ref_File.f (k : Nat) (a0 a1 a2 : Int) (l3 : List Int) (l4 : List S50) (kind at_ id opt : Int) : Option Dk :=
  (insolvencyref33_Advance.f k a0 a1 a2 l3 l4 at_).bind fun r => if r.2.2.2.2.2.2 = 0 then ref_File.tail k r.1 r.2.1 r.2.2.1 r.2.2.2.1 r.2.2.2.2.1 r.2.2.2.2.2.1 kind at_ id opt else some (dkErr r.2.2.2.2.2.2)
theorem ref_File.mono : ∀ a0 a1 a2 a3 a4 a5 a6 a7 a8 k, LeO (ref_File.f k a0 a1 a2 a3 a4 a5 a6 a7 a8) (ref_File.f (k + 1) a0 a1 a2 a3 a4 a5 a6 a7 a8) := by
  intro a0 a1 a2 a3 a4 a5 a6 a7 a8 k
  unfold ref_File.f ref_File.tail
  repeat' first
  | (with_reducible exact insolvencyref33_Advance.mono _ _ _ _ _ _ _)
  | (with_reducible exact F.insolvencyref1_AddDays.mono _ _ _ _)
  | (with_reducible exact LeO.refl _)
  | (with_reducible exact LeO.none _)
  | (with_reducible refine LeO.ite ?_ ?_)
  | (with_reducible refine LeO.bind ?_ (fun _ => ?_))
set_option maxHeartbeats 16000000 in
set_option maxRecDepth 100000 in
theorem rfile_walk (k : Nat) (d a p : Int) (v u : Value) (kind day id opt : Int) (r : Dk) (r' : Dk) (w : World)
    (hA : Calls Try.prog 27 #[.agg #[.int .i64 d, .int .i64 a, .int .i64 p, v, u], .int .i64 day] (filWorld w d a p v u kind day id opt) (FileEnd (filWorld w d a p v u kind day id opt) r))
    (h : (if r.2.2.2.2.2.2 = 0 then ref_File.tail k r.1 r.2.1 r.2.2.1 r.2.2.2.1 r.2.2.2.2.1 r.2.2.2.2.2.1 kind day id opt else some (dkErr r.2.2.2.2.2.2)) = some r') :
    Calls Try.prog 28 #[.agg #[.int .i64 d, .int .i64 a, .int .i64 p, v, u], .agg #[.int .i64 kind, .int .i64 day, .int .i64 id, .int .i64 opt]] w (FileEnd w r') := by
  have hu := Try.underlying47
  have hu2 := Try.underlying27
  have hu3 := Try.underlying30
  have hu4 := Try.underlying28
  have B0 := fil_below w d a p v u kind day id opt
  have K2 := fil_res w d a p v u kind day id opt
  have K1 := fil_file w d a p v u kind day id opt
  obtain ⟨r1, r2, r3, hs, ms, rl, r7⟩ := r
  go_enter Try.func28, Try.ntmps28
  go_upto_region 2 with (go_at_call 27; change Calls _ _ _ (filWorld w d a p v u kind day id opt) _; refine hA.mono ?_; rintro e w1 ⟨v3, v4, v5, rfl, h3, h4, h5, hb⟩; have K3 := blk_below K2 hb; have K4 := blk_below K1 hb; obtain ⟨A3, c3, rfl⟩ := Kd.R_slice h3; obtain ⟨A4, c4, rfl⟩ := Kd.R_slice h4; obtain ⟨A5, c5, rfl⟩ := Kd.R_slice h5)
  change Code.wp _ _ _ _ (w1.alloc (.cells #[.int .i64 r1, .int .i64 r2, .int .i64 r3, .slice A3 hs.length c3, .slice A4 ms.length c4] 30 (0, 0)))
  have KO := blk_new w1 (.cells #[.int .i64 r1, .int .i64 r2, .int .i64 r3, .slice A3 hs.length c3, .slice A4 ms.length c4] 30 (0, 0))
  have KZ := blk_alloc K3 (.cells #[.int .i64 r1, .int .i64 r2, .int .i64 r3, .slice A3 hs.length c3, .slice A4 ms.length c4] 30 (0, 0))
  have KF := blk_alloc K4 (.cells #[.int .i64 r1, .int .i64 r2, .int .i64 r3, .slice A3 hs.length c3, .slice A4 ms.length c4] 30 (0, 0))
  have R3 := Kd.R_alloc (Kd.R_lower h3 B0.size) (.cells #[.int .i64 r1, .int .i64 r2, .int .i64 r3, .slice A3 hs.length c3, .slice A4 ms.length c4] 30 (0, 0))
  have R4 := Kd.R_alloc (Kd.R_lower h4 B0.size) (.cells #[.int .i64 r1, .int .i64 r2, .int .i64 r3, .slice A3 hs.length c3, .slice A4 ms.length c4] 30 (0, 0))
  have R5 := Kd.R_alloc (Kd.R_lower h5 B0.size) (.cells #[.int .i64 r1, .int .i64 r2, .int .i64 r3, .slice A3 hs.length c3, .slice A4 ms.length c4] 30 (0, 0))
  have BW := below_alloc (below_step B0 hb) (.cells #[.int .i64 r1, .int .i64 r2, .int .i64 r3, .slice A3 hs.length c3, .slice A4 ms.length c4] 30 (0, 0))
  have n1 : w1.heap.size ≠ w.heap.size + 1 + 1 := Nat.ne_of_gt (blk_lt K3)
  have n2 : w1.heap.size ≠ w.heap.size + 1 := Nat.ne_of_gt (blk_lt K4)
  have n3 : w.heap.size + 1 ≠ w.heap.size + 1 + 1 := by omega
  have n4 : w.heap.size ≤ w.heap.size + 1 + 1 := by omega
  have n5 : w.heap.size ≤ w1.heap.size := Nat.le_trans n4 (Nat.le_of_lt (blk_lt K3))
  generalize w1.alloc (.cells #[.int .i64 r1, .int .i64 r2, .int .i64 r3, .slice A3 hs.length c3, .slice A4 ms.length c4] 30 (0, 0)) = W2 at *
  generalize w1.heap.size = gO at *
  generalize w.heap.size + 1 + 1 = gZ at *
  generalize w.heap.size + 1 = gB at *
  clear K1 K2 K3 K4 h3 h4 h5 hb hA B0 w1
  obtain ⟨z0, z1, z2, z3, z4⟩ := cells5 ⟨KZ⟩
  obtain ⟨x0, x1, x2, x3, x4⟩ := frz5 ⟨KZ⟩
  by_cases he : r7 = 0
  · rw [if_pos he] at h
    subst he
    obtain ⟨f0, f1, f2, f3⟩ := cells4 ⟨KF⟩
    obtain ⟨o0, o1, o2, o3, o4⟩ := cells5 ⟨KO⟩
    unfold ref_File.tail at h
    by_cases hk : kind < 1 ∨ 6 < kind
    · rw [if_pos hk] at h
      obtain rfl := Option.some.inj h
      clear h
      by_cases h1 : kind < 1
      · have e1 : decide (kind < 1) = true := decide_eq_true h1
        clear hk h1
        go_wp2
        refine bodyPost_ret (results_ctt rfl _ _ gZ 30 _ (0, 0) _ rfl (five_blk KZ _ _ _ _ _) Try.underlying30 rfl (by kernel_rfl)) rfl ?_
        exact end_err _ _ _ _ BW n4
      · have e1 : decide (kind < 1) = false := decide_eq_false h1
        have e2 : decide (6 < kind) = true := decide_eq_true (by omega)
        clear hk h1
        go_wp2
        refine bodyPost_ret (results_ctt rfl _ _ gZ 30 _ (0, 0) _ rfl (five_blk KZ _ _ _ _ _) Try.underlying30 rfl (by kernel_rfl)) rfl ?_
        exact end_err _ _ _ _ BW n4
    rw [if_neg hk] at h
    have e1 : decide (kind < 1) = false := decide_eq_false (by omega)
    have e2 : decide (6 < kind) = false := decide_eq_false (by omega)
    have hC := (Kd.R_reads' R4).2
    by_cases hl : ms.length < 4611686018427387904
    case neg => rw [if_neg hl] at h; cases h
    rw [if_pos hl] at h
    by_cases hk1 : kind = 1
    · rw [if_pos hk1] at h
      subst hk1
      by_cases ho : (openF ms id).2 = 0
      · rw [if_pos ho] at h
        obtain rfl := Option.some.inj h
        have hop := opened_ok gO r1 r2 r3 (.slice A3 hs.length c3) (.slice A4 ms.length c4) ms id w W2 BW n5 KO R4 ho
        clear h hk e1 e2 ho hl hC
        go_wp2_with (go_at_call 46; refine hop.mono ?_; rintro e w3 ⟨u3, rfl, KO3, R43, B3, hsame⟩; have nz := Kd.R_ne R4 KZ (by decide); have nf := Kd.R_ne R4 KF (by decide); have KZ3 := (hsame gZ (blk_lt KZ) (Ne.symm n1) nz).trans KZ; have KF3 := (hsame gB (blk_lt KF) (Ne.symm n2) nf).trans KF; have R33 := R_keep2 R3 hsame KO (by decide) (Kd.R_typed R4) (by decide); have R53 := R_keep2 R5 hsame KO (by decide) (Kd.R_typed R4) (by decide); obtain ⟨z0, z1, z2, z3, z4⟩ := cells5 ⟨KZ3⟩; obtain ⟨x0, x1, x2, x3, x4⟩ := frz5 ⟨KZ3⟩; obtain ⟨o0, o1, o2, o3, o4⟩ := cells5 ⟨KO3⟩; obtain ⟨f0, f1, f2, f3⟩ := cells4 ⟨KF3⟩; obtain ⟨A43, c43, rfl⟩ := Kd.R_slice R43)
        refine bodyPost_ret (results_ctt rfl _ _ gZ 30 _ (0, 0) _ rfl (five_blk KZ3 _ _ _ _ _) Try.underlying30 rfl (by kernel_rfl)) rfl ?_
        exact end_ok _ _ _ _ _ _ _ _ _ _ _ _ #[] B3 n4 KZ3 R33 R43 R53
      · rw [if_neg ho] at h
        obtain rfl := Option.some.inj h
        have hop := opened_err gO r1 r2 r3 (.slice A3 hs.length c3) A4 c4 ms id W2 hC.1 hl KO hC.2 ho
        have he2 : ((openF ms id).2 != 0) = true := by simpa using ho
        clear h hk e1 e2 ho hl hC
        generalize (openF ms id).2 = eo at *
        go_wp2_with (go_at_call 46; refine hop.mono ?_; rintro e w3 ⟨rfl, B3⟩; have KZ3 := blk_below KZ B3; obtain ⟨z0, z1, z2, z3, z4⟩ := cells5 ⟨KZ3⟩; obtain ⟨x0, x1, x2, x3, x4⟩ := frz5 ⟨KZ3⟩)
        refine bodyPost_ret (results_ctt rfl _ _ gZ 30 _ (0, 0) _ rfl (five_blk KZ3 _ _ _ _ _) Try.underlying30 rfl (by kernel_rfl)) rfl ?_
        exact end_err _ _ _ _ (below_step BW B3) n4
    rw [if_neg hk1] at h
    have e3 : (kind == 1) = false := by simpa using hk1
    have hf := matterOf_calls r1 r2 r3 (.slice A3 hs.length c3) A4 c4 ms id W2 hl hC.2
    have hq := fnd_lt id ms 0
    generalize fnd id ms 0 = q at *
    by_cases hq0 : q < 0
    · rw [if_pos hq0] at h
      obtain rfl := Option.some.inj h
      have e4 : decide (q < 0) = true := decide_eq_true hq0
      clear h hk hk1 hl hC hq hq0
      go_wp2_with (go_at_call 47; refine hf.mono ?_; rintro e w3 ⟨rfl, B3⟩; have KZ3 := blk_below KZ B3; obtain ⟨z0, z1, z2, z3, z4⟩ := cells5 ⟨KZ3⟩; obtain ⟨x0, x1, x2, x3, x4⟩ := frz5 ⟨KZ3⟩)
      refine bodyPost_ret (results_ctt rfl _ _ gZ 30 _ (0, 0) _ rfl (five_blk KZ3 _ _ _ _ _) Try.underlying30 rfl (by kernel_rfl)) rfl ?_
      exact end_err _ _ _ _ (below_step BW B3) n4
    rw [if_neg hq0] at h
    have e4 : decide (q < 0) = false := decide_eq_false hq0
    have hqn : q < (ms.length : Int) := by omega
    have hq1 : 0 ≤ q := by omega
    have p1 : (0 ≤ q) = True := eq_true hq1
    have p2 : (q < (ms.length : Int)) = True := eq_true hqn
    obtain ⟨g4, c4', eq4, -, hg4, -⟩ := Kd.R_form R4 (by omega)
    injection eq4 with eA _ eC
    subst eA
    subst eC
    clear hq hq0 hC hl
    have hreq := fun W => required_calls kind W (by omega)
    by_cases hst : (rd_T50 ms q).f1 ≠ kind - 1
    · rw [if_pos hst] at h
      obtain rfl := Option.some.inj h
      have hd8 : ((rd_T50 ms q).f1 != kind - 1) = true := by simpa using hst
      clear h
      go_upto_region 12 with (go_at_call 47; refine hf.mono ?_; rintro e w3 ⟨rfl, B3⟩; have KF3' := blk_below KF B3; obtain ⟨f0, f1, f2, f3⟩ := cells4 ⟨KF3'⟩)
      have KZ3 := blk_below KZ B3
      have KF3 := blk_below KF B3
      have KO3 := blk_below KO B3
      have R43 := Kd.R_below R4 B3
      have hc := (elm R43 q hq1 hqn _ rfl).1
      clear f0 f1 f2 f3 o0 o1 o2 o3 o4 z0 z1 z2 z3 z4 x0 x1 x2 x3 x4 hst
      generalize (rd_T50 ms q).f1 = stt at *
      obtain ⟨f0, f1, f2, f3⟩ := cells4 ⟨KF3⟩
      obtain ⟨o0, o1, o2, o3, o4⟩ := cells5 ⟨KO3⟩
      go_region_held3 (fun w_ => w_.cell? ⟨gB, 0, none⟩ = some (.int .i64 kind) ∧ w_.cell? ⟨gO, 4, none⟩ = some (.slice (some ⟨g4, 0, none⟩) ms.length c4) ∧ w_.cell? ⟨g4, q.toNat * 5 + 1, none⟩ = some (.int .i64 stt)) (first | exact ⟨f0, o4, hc⟩ | exact ⟨f0', o4', hc'⟩ | go_keep)
        (first | (go_at_call 48; refine (hreq _).mono ?_; rintro e w4 ⟨rfl, B4⟩; have f0' := pw_cell_below B4 (show w3.drew.cell? _ = _ from f0); have o4' := pw_cell_below B4 (show w3.drew.cell? _ = _ from o4); have hc' := pw_cell_below B4 (show w3.drew.cell? _ = _ from hc)))
      have KZ4 := blk_below (blk_drew KZ3) B4
      obtain ⟨z0, z1, z2, z3, z4⟩ := cells5 ⟨KZ4⟩
      obtain ⟨x0, x1, x2, x3, x4⟩ := frz5 ⟨KZ4⟩
      go_wp2
      refine bodyPost_ret (results_ctt rfl _ _ gZ 30 _ (0, 0) _ rfl (five_blk KZ4 _ _ _ _ _) Try.underlying30 rfl (by kernel_rfl)) rfl ?_
      exact end_err _ _ _ _ (below_step (below_drew1 (below_step BW B3)) B4) n4
    rw [if_neg hst] at h
    have hst' : (rd_T50 ms q).f1 = kind - 1 := by omega
    clear hst
    have hch : ∀ W, Below W2.heap.size W2 W → Calls Try.prog 49 #[.pointer (some ⟨gO, 0, none⟩), .pointer (some ⟨g4, q.toNat * 5, none⟩), .agg #[.int .i64 kind, .int .i64 day, .int .i64 id, .int .i64 opt]] W fun e w' => ∃ c, e = .returned (.int .i64 c) ∧ (∀ k, k < W.heap.size → k ≠ g4 → w'.heap[k]? = W.heap[k]?) ∧
        (c ≠ 0 ∧ r' = dkErr c ∧ Below W.heap.size W w' ∨ c = 0 ∧ ∃ x, r' = (r1, r2, r3, hs, ms.set q.toNat x, if kind = 6 then rl ++ [⟨id, day, opt⟩] else rl, 0) ∧ (kind = 6 → rl.length < 5864062014805) ∧
          Kd.R k50 50 w' w.heap.size (fun _ => True) (.slice (some ⟨g4, 0, none⟩) ms.length c4) (ms.set q.toNat x) ∧ Below w.heap.size w w') := by
      intro W hW
      have R4W := Kd.R_below R4 hW
      have KOW := blk_below KO hW
      by_cases hop : (kind = 4 ∨ kind = 6) ∧ (opt < 0 ∨ 4 ≤ opt)
      · rw [if_pos hop] at h
        obtain rfl := Option.some.inj h
        refine (rchange_opt g4 (q.toNat * 5) gO kind day id opt W hop.1 (by omega)).mono ?_
        rintro e w' ⟨rfl, hb⟩
        exact ⟨41, rfl, fun k hk _ => hb.block k hk, .inl ⟨by decide, rfl, hb⟩⟩
      rw [if_neg hop] at h
      obtain ⟨ad, had, h⟩ := Option.bind_eq_some_iff.mp h
      have hCh := (Kd.R_reads' R3).2
      have hAdd : kind = 2 ∨ kind = 4 → RAddAt W day (if kind = 2 then r2 else r3) (.slice A3 hs.length c3) ad := by
        intro h24 W1 hW1
        rw [if_pos h24] at had
        exact (F.insolvencyref1_AddDays.calls k day (if kind = 2 then r2 else r3) A3 c3 hs ad.1 ad.2 W1 (Kd.C_below (Kd.C_below hCh.2 hW) hW1) hCh.1 had).mono (fun e w' ⟨h1, h2⟩ => ⟨h1, h2.below⟩)
      by_cases ha : ad.2 ≠ 0
      · rw [if_pos ha] at h
        obtain rfl := Option.some.inj h
        have h24 : kind = 2 ∨ kind = 4 := by
          by_cases hh : kind = 2 ∨ kind = 4
          · exact hh
          · rw [if_neg hh] at had
            obtain rfl := Option.some.inj had
            exact absurd rfl ha
        refine (rchange_add g4 (q.toNat * 5) gO kind day id opt r1 r2 r3 (.slice A3 hs.length c3) _ ad W (by omega) KOW (hAdd h24) ha).mono ?_
        rintro e w' ⟨rfl, hb⟩
        exact ⟨ad.2, rfl, fun k hk _ => hb.block k hk, .inl ⟨ha, rfl, hb⟩⟩
      rw [if_neg ha] at h
      have ha0 : ad.2 = 0 := by omega
      have hA2 : if kind = 2 ∨ kind = 4 then RAddAt W day (if kind = 2 then r2 else r3) (.slice A3 hs.length c3) ad else ad = (0, 0) := by
        by_cases hh : kind = 2 ∨ kind = 4
        · rw [if_pos hh]; exact hAdd hh
        · rw [if_neg hh] at had ⊢
          exact (Option.some.inj had).symm
      refine (rchange_ok g4 gO q c4 ms (fun _ => True) kind day id opt r1 r2 r3 (.slice A3 hs.length c3) _ ad w W (below_step BW hW) hq1 hqn (by omega) KOW R4W hA2 ha0).mono ?_
      rintro e w' ⟨rfl, hR, hB, hs2⟩
      by_cases h6 : kind = 6
      · rw [if_pos h6] at h
        by_cases hrl : rl.length < 5864062014805
        · rw [if_pos hrl] at h
          obtain rfl := Option.some.inj h
          exact ⟨0, rfl, hs2, .inr ⟨rfl, _, by rw [if_pos h6], fun _ => hrl, hR, hB⟩⟩
        · rw [if_neg hrl] at h; cases h
      · rw [if_neg h6] at h
        obtain rfl := Option.some.inj h
        exact ⟨0, rfl, hs2, .inr ⟨rfl, _, by rw [if_neg h6], fun h => absurd h h6, hR, hB⟩⟩
    clear h hk hk1
    have hd8 : ((kind - 1) != (kind - 1)) = false := by simp
    go_upto_region 12 with (go_at_call 47; refine hf.mono ?_; rintro e w3a ⟨rfl, B3a⟩; have KF3' := blk_below KF B3a; obtain ⟨f0, f1, f2, f3⟩ := cells4 ⟨KF3'⟩)
    have KF3a := blk_below KF B3a
    have KO3a := blk_below KO B3a
    have hc := (elm (Kd.R_below R4 B3a) q hq1 hqn _ rfl).1
    rw [hst'] at hc
    clear f0 f1 f2 f3 o0 o1 o2 o3 o4 z0 z1 z2 z3 z4 x0 x1 x2 x3 x4
    obtain ⟨f0, f1, f2, f3⟩ := cells4 ⟨KF3a⟩
    obtain ⟨o0, o1, o2, o3, o4⟩ := cells5 ⟨KO3a⟩
    generalize hkm : kind - 1 = km at *
    go_region_held3 (fun w_ => w_.cell? ⟨gB, 0, none⟩ = some (.int .i64 kind) ∧ w_.cell? ⟨gO, 4, none⟩ = some (.slice (some ⟨g4, 0, none⟩) ms.length c4) ∧ w_.cell? ⟨g4, q.toNat * 5 + 1, none⟩ = some (.int .i64 km)) (first | exact ⟨f0, o4, hc⟩ | exact ⟨f0', o4', hc'⟩ | go_keep)
      (first | (go_at_call 48; refine (hreq _).mono ?_; rintro e w3 ⟨rfl, B4a⟩; have f0' := pw_cell_below B4a (show w3a.drew.cell? _ = _ from f0); have o4' := pw_cell_below B4a (show w3a.drew.cell? _ = _ from o4); have hc' := pw_cell_below B4a (show w3a.drew.cell? _ = _ from hc)))
    have B3 : Below W2.heap.size W2 w3 := below_step (below_drew1 B3a) B4a
    clear f0 f1 f2 f3 o0 o1 o2 o3 o4 hc f0' o4' hc' KF3a KO3a B3a B4a
    have KZ3 := blk_below KZ B3
    have KF3 := blk_below KF B3
    have KO3 := blk_below KO B3
    obtain ⟨f0, f1, f2, f3⟩ := cells4 ⟨KF3⟩
    obtain ⟨o0, o1, o2, o3, o4⟩ := cells5 ⟨KO3⟩
    go_upto_region 9 with (fail)
    have R33 := Kd.R_below R3 B3
    have R43 := Kd.R_below R4 B3
    have R53 := Kd.R_below R5 B3
    have hcal := hch w3.drew (below_drew1 B3)
    clear hch hkm hd8
    have nF : gB ≠ g4 := fun he => Kd.R_ne R4 KF (by decide) (by rw [he]; simp [Value.ownBlock])
    have nO : gO ≠ g4 := fun he => Kd.R_ne R4 KO (by decide) (by rw [he]; simp [Value.ownBlock])
    have nZ : gZ ≠ g4 := fun he => Kd.R_ne R4 KZ (by decide) (by rw [he]; simp [Value.ownBlock])
    go_region_held3 (fun w_ => w_.cell? ⟨gB, 0, none⟩ = some (.int .i64 kind) ∧ w_.cell? ⟨gB, 1, none⟩ = some (.int .i64 day) ∧ w_.cell? ⟨gB, 2, none⟩ = some (.int .i64 id) ∧ w_.cell? ⟨gB, 3, none⟩ = some (.int .i64 opt) ∧ w_.cell? ⟨gO, 4, none⟩ = some (.slice (some ⟨g4, 0, none⟩) ms.length c4)) (first | exact ⟨f0, f1, f2, f3, o4⟩ | exact ⟨f0', f1', f2', f3', o4'⟩ | go_keep)
      (first | (go_at_call 49; refine hcal.mono ?_; rintro e w4 ⟨c, rfl, hs4, hcc⟩; have KF4 := (hs4 gB (blk_lt (blk_drew KF3)) nF).trans (blk_drew KF3); have KO4 := (hs4 gO (blk_lt (blk_drew KO3)) nO).trans (blk_drew KO3); have KZ4 := (hs4 gZ (blk_lt (blk_drew KZ3)) nZ).trans (blk_drew KZ3); obtain ⟨f0', f1', f2', f3'⟩ := cells4 ⟨KF4⟩; obtain ⟨o0', o1', o2', o3', o4'⟩ := cells5 ⟨KO4⟩))
    obtain ⟨z0, z1, z2, z3, z4⟩ := cells5 ⟨KZ4⟩
    obtain ⟨x0, x1, x2, x3, x4⟩ := frz5 ⟨KZ4⟩
    clear f0 f1 f2 f3 o0 o1 o2 o3 o4 p1 p2
    rcases hcc with ⟨hc0, rfl, hb4⟩ | ⟨rfl, x, hr', hrl, R44, B4⟩
    · have he2 : (c != 0) = true := by simpa using hc0
      clear hc0
      go_wp2
      refine bodyPost_ret (results_ctt rfl _ _ gZ 30 _ (0, 0) _ rfl (five_blk KZ4 _ _ _ _ _) Try.underlying30 rfl (by kernel_rfl)) rfl ?_
      exact end_err _ _ _ _ (below_step (below_drew1 (below_step BW B3)) hb4) n4
    obtain ⟨gc, hgc⟩ := Kd.R_typed (Kd.R_drew R43) g4 (by simp [Value.ownBlock])
    have R34 := R_keep2 (u := .slice none 0 0) (t2 := 0) (Kd.R_drew R33) (fun k h1 h2 _ => hs4 k h1 h2) hgc (by decide) (fun k hk => by simp [Value.ownBlock] at hk) (by decide)
    have R54 := R_keep2 (u := .slice none 0 0) (t2 := 0) (Kd.R_drew R53) (fun k h1 h2 _ => hs4 k h1 h2) hgc (by decide) (fun k hk => by simp [Value.ownBlock] at hk) (by decide)
    by_cases h6 : kind = 6
    · subst h6
      rw [if_pos rfl] at hr'
      subst hr'
      have hrl := hrl rfl
      have NF := Kd.R_ne R54 KF4 (by decide)
      have NO := Kd.R_ne R54 KO4 (by decide)
      have NZ := Kd.R_ne R54 KZ4 (by decide)
      go_wp2_with (first | ((with_reducible refine gate_builtin (b := .append) (xs := #[.tmp 69, .tmp 77]) rfl ?_); at_builtin; refine Kd.R_append k52 (w0 := w) w.heap.size rfl (.tmp 69) (.tmp 77) 32 52 (.agg #[(.int .i64 0), (.int .i64 0), (.int .i64 0)]) 24 rfl Try.underlying32 info52 rfl (by decide) (by omega) _ rl (⟨id, day, opt⟩ : S52) [.int .i64 id, .int .i64 day, .int .i64 opt] (fun _ => True) (fun _ => False) rfl rfl ?aP (fun _ hk => hk.elim) ?aF ?aO ?aB ?aS ?aL ?_; (case aP => exact k52_mkM _ _ _ (⟨id, day, opt⟩ : S52)); (case aB => exact B4); (case aF => exact (fun _ _ => trivial)); (case aO => exact R54); (case aS => exact B4.size); (case aL => omega); intro v5 w5 ho5 hb5 hgr hat; change w4.grownBy w5 (Value.slice A5 rl.length c5).ownBlock at hgr; obtain ⟨A6, c6, rfl⟩ := Kd.R_slice ho5; have KZ5 := blk_grown KZ4 hgr NZ; have KO5 := blk_grown KO4 hgr NO; obtain ⟨z0, z1, z2, z3, z4⟩ := cells5 ⟨KZ5⟩; obtain ⟨x0, x1, x2, x3, x4⟩ := frz5 ⟨KZ5⟩; obtain ⟨o0', o1', o2', o3', o4'⟩ := cells5 ⟨KO5⟩))
      refine bodyPost_ret (results_ctt rfl _ _ gZ 30 _ (0, 0) _ rfl (five_blk KZ5 _ _ _ _ _) Try.underlying30 rfl (by kernel_rfl)) rfl ?_
      simp only [List.length_append, List.length_cons, List.length_nil, Nat.zero_add] at ho5
      have R35 := Kd.R_over' (v := .slice A5 rl.length c5) R34 (Kd.R_typed R54) (by decide) hgr
      have R45 := Kd.R_over' (v := .slice A5 rl.length c5) R44 (Kd.R_typed R54) (by decide) hgr
      exact end_ok _ _ _ _ _ _ _ _ _ _ _ _ #[] hb5 n4 KZ5 R35 R45 (Kd.R_mono ho5 (fun _ _ => trivial))
    · have e6 : (kind == 6) = false := by simpa using h6
      rw [if_neg h6] at hr'
      subst hr'
      clear h6 hrl
      go_wp2
      refine bodyPost_ret (results_ctt rfl _ _ gZ 30 _ (0, 0) _ rfl (five_blk KZ4 _ _ _ _ _) Try.underlying30 rfl (by kernel_rfl)) rfl ?_
      exact end_ok _ _ _ _ _ _ _ _ _ _ _ _ #[] B4 n4 KZ4 R34 R44 R54
  · rw [if_neg he] at h
    obtain rfl := Option.some.inj h
    have he2 : (r7 != 0) = true := by simpa using he
    clear he h
    go_wp2
    refine bodyPost_ret (results_ctt rfl _ _ gZ 30 _ (0, 0) _ rfl (five_blk KZ _ _ _ _ _) Try.underlying30 rfl (by kernel_rfl)) rfl ?_
    exact end_err _ _ _ _ BW n4
theorem ref_File.calls (k : Nat) (a0_0 : Int) (a0_1 : Int) (a0_2 : Int) (A0_3 : Option Addr) (c0_3 : Nat) (l0_3 : List Int) (A0_4 : Option Addr) (c0_4 : Nat) (l0_4 : List S50) (a1_0 a1_1 a1_2 a1_3 : Int) (r1 : Int) (r2 : Int) (r3 : Int) (r4 : List Int) (r5 : List S50) (r6 : List S52) (r7 : Int) (w : World) (hr0_3 : Kd.C (Kd.int .i64) w A0_3 l0_3.length l0_3) (hc0_3 : l0_3.length ≤ c0_3) (hr0_4 : Kd.C k50 w A0_4 l0_4.length l0_4) (hc0_4 : l0_4.length ≤ c0_4) (h : ref_File.f k a0_0 a0_1 a0_2 l0_3 l0_4 a1_0 a1_1 a1_2 a1_3 = some (r1, r2, r3, r4, r5, r6, r7)) :
    Calls Try.prog 28 #[.agg #[.int .i64 a0_0, .int .i64 a0_1, .int .i64 a0_2, .slice A0_3 l0_3.length c0_3, .slice A0_4 l0_4.length c0_4], .agg #[.int .i64 a1_0, .int .i64 a1_1, .int .i64 a1_2, .int .i64 a1_3]] w fun e w' => ∃ v3_ v4_ v5_ : Value, e = .returned (.tuple #[.agg #[.int .i64 r1, .int .i64 r2, .int .i64 r3, v3_, v4_], v5_, .int .i64 r7]) ∧ Kd.R (Kd.int .i64) 3 w' w.heap.size (fun _ => True) v3_ r4 ∧ Kd.R k50 50 w' w.heap.size (fun _ => True) v4_ r5 ∧ Kd.R k52 52 w' w.heap.size (fun _ => True) v5_ r6 ∧ Below w.heap.size w w' := by
  unfold ref_File.f at h
  obtain ⟨r, hr, h⟩ := Option.bind_eq_some_iff.mp h
  have hb := fil_below w a0_0 a0_1 a0_2 (.slice A0_3 l0_3.length c0_3) (.slice A0_4 l0_4.length c0_4) a1_0 a1_1 a1_2 a1_3
  have hA := insolvencyref33_Advance.calls k a0_0 a0_1 a0_2 A0_3 c0_3 l0_3 A0_4 c0_4 l0_4 a1_1 r.1 r.2.1 r.2.2.1 r.2.2.2.1 r.2.2.2.2.1 r.2.2.2.2.2.1 r.2.2.2.2.2.2 _ (Kd.C_below hr0_3 hb) hc0_3 (Kd.C_below hr0_4 hb) hc0_4 hr
  exact rfile_walk k a0_0 a0_1 a0_2 _ _ a1_0 a1_1 a1_2 a1_3 r (r1, r2, r3, r4, r5, r6, r7) w hA h
end Go.Proofs.Ytpfiecjacpbhkaa.D

namespace Go.Proofs.Ytpfiecjacpbhkaa.D
open Go.RowKit Go.Maps Go.Proofs.YtpfiecjacpbhkaaW.PrintWords Go.Proofs.YtpfiecjacpbhkaaW.PrintLast Go.Proofs.YtpfiecjacpbhkaaW.PrintMore
set_option linter.unusedVariables false
set_option linter.unusedSimpArgs false
def matGo : List S83 → Int → (Int → Int) → List S47
  | [], _, _ => []
  | x :: r, day, st =>
    if 6 ≤ st (wrap64 (Int.tmod x.f2 4)) then matGo r (wrap64 (day + wrap64 (Int.tmod x.f1 4))) st
    else ⟨wrap64 (1 + st (wrap64 (Int.tmod x.f2 4))), wrap64 (day + wrap64 (Int.tmod x.f1 4)), wrap64 (Int.tmod x.f2 4), wrap64 (Int.tmod x.f3 4)⟩ ::
      matGo r (wrap64 (day + wrap64 (Int.tmod x.f1 4))) (fun i => if i = wrap64 (Int.tmod x.f2 4) then wrap64 (st (wrap64 (Int.tmod x.f2 4)) + 1) else st i)
def law0_Matters.f (k : Nat) (l0 : List S83) : Option (List S47) := some (matGo (l0.take 24) 0 (fun _ => 0))
theorem law0_Matters.mono : ∀ a0 k, LeO (law0_Matters.f k a0) (law0_Matters.f (k + 1) a0) := fun _ _ => LeO.refl _
theorem undMapI : Try.prog.underlying 82 = some (.map 3 3) := by kernel_rfl
theorem undI : Try.prog.underlying 3 = some (.int .i64) := by kernel_rfl
theorem zeroI (w : World) : (zeroValue 3).run Try.prog w = .ok (.int .i64 0) w := by kernel_rfl
theorem keyI (i : Int) (hi : (Lit.int .i64 i).wf = true) : keyOf Try.prog 3 (.int .i64 i) = some (.int .i64 i) := by simp [keyOf, undI, mapKey, hi]
theorem lawI : Keyed Try.prog 3 := int_keyed undI
theorem wf64 (x : Int) : (Lit.int .i64 (wrap64 x)).wf = true := by
  simp [Lit.wf, IntKind.min, IntKind.max, IntKind.signed, IntKind.bits]
  unfold wrap64
  omega
def IsTab (W : World) (g : Nat) (f : Int → Int) (m : Nat) : Prop :=
  ∃ n D, n ≤ m ∧ W.ownsMap Try.prog 3 (plainElem (H := Unit) Try.prog 3) g n D ∧ ∀ i : Int, (Lit.int .i64 i).wf = true → D.atKey (.int .i64 i) (.lit (.int .i64 0)) = .lit (.int .i64 (f i))
theorem IsTab.lt {W : World} {g m : Nat} {f : Int → Int} (h : IsTab W g f m) : g < W.heap.size := by
  obtain ⟨n, D, _, h2, _⟩ := h
  exact h2.lt
theorem IsTab.made (w : World) : IsTab (w.alloc (.map #[] 0)) w.heap.size (fun _ => 0) 0 := ⟨0, .map [], Nat.le_refl _, World.ownsMap_made w _ _ _, fun i _ => by simp [DataW.atKey]⟩
theorem IsTab.alloc {W : World} {g m : Nat} {f : Int → Int} (h : IsTab W g f m) (o : Obj) : IsTab (W.alloc o) g f m := by
  obtain ⟨n, D, h1, h2, h3⟩ := h
  exact ⟨n, D, h1, h2.alloc o, h3⟩
theorem IsTab.grown {W W' : World} {row : Option Nat} {g m : Nat} {f : Int → Int} (h : IsTab W g f m) (hg : W.grownBy W' row) (hne : some g ≠ row) : IsTab W' g f m := by
  obtain ⟨n, D, h1, h2, h3⟩ := h
  exact ⟨n, D, h1, h2.kept hg hne, h3⟩
theorem IsTab.le {W : World} {g m m' : Nat} {f : Int → Int} (h : IsTab W g f m) (hm : m ≤ m') : IsTab W g f m' := by
  obtain ⟨n, D, h1, h2⟩ := h
  exact ⟨n, D, by omega, h2⟩
theorem IsTab.obj {W : World} {g m : Nat} {f : Int → Int} (h : IsTab W g f m) : ∃ es ck, W.heap[g]? = some (.map es ck) := by
  obtain ⟨n, D, h1, ⟨es, ck, hb, F, hs, hD⟩, h3⟩ := h
  exact ⟨es, ck, hb⟩
theorem R_ne_tab {α : Type} {d : Kd α} {e base g m : Nat} {w : World} {ok : Nat → Prop} {v : Value} {xs : List α} {f : Int → Int} (h : d.R e w base ok v xs) (ht : IsTab w g f m) : some g ≠ v.ownBlock := by
  obtain ⟨es, ck, hb⟩ := ht.obj
  obtain ⟨inner, ho, _⟩ := h.2
  rcases ho.2 with ⟨rfl, _⟩ | ⟨g', cap, cur, rfl, _, hh, _⟩
  · simp [Value.ownBlock]
  · intro he
    have e' : g = g' := by simpa [Value.ownBlock] using he
    subst e'
    rw [hb] at hh
    cases hh
theorem R_tab {α : Type} {d : Kd α} {e base g m : Nat} {w w' : World} {ok : Nat → Prop} {v : Value} {xs : List α} {f : Int → Int} (h : d.R e w base ok v xs) (ht : IsTab w g f m) (hg : w.grownBy w' (some g)) : d.R e w' base ok v xs := by
  obtain ⟨es, ck, hb⟩ := ht.obj
  refine Kd.R_mono (Kd.R_step (Kd.R_bound h) (fun k hk hlt => hg.block k hlt ?_)) (fun _ hk => hk.1)
  intro he
  have e' : k = g := by simpa using he
  subst e'
  obtain ⟨_, _, _, q, hq, cs, hc⟩ := hk
  rw [hb] at hc
  cases hc
section
variable {P : Program} {ops : Array Oper} {Q : Exit → Act → World → Prop}
theorem gate_look {t : TypeId} {m x : Operand} {c : Bool} {o : Oper} {rest : List Oper} {a : Act} {W : World} (_ho : o.op = Op.lookup t m x c) (h : wpList P ops Q (o :: rest) a W) : wpList P ops Q (o :: rest) a W := h
theorem gate_put {t : TypeId} {m x v : Operand} {o : Oper} {rest : List Oper} {a : Act} {W : World} (_ho : o.op = Op.mapUpdate t m x v) (h : wpList P ops Q (o :: rest) a W) : wpList P ops Q (o :: rest) a W := h
theorem lookT_ {rest : List Oper} {o : Oper} {a : Act} {w : World} (hg : o.guard = none) {m x : Operand} (hop : o.op = Op.lookup 82 m x false)
    {g n : Nat} {f : Int → Int} (i : Int) (hm : a.eval m = .map (some g)) (hx : a.eval x = .int .i64 i) (hs : IsTab w g f n) (hi : (Lit.int .i64 i).wf = true)
    (h : wpList Try.prog ops Q rest (a.put o.dst (.int .i64 (f i))) w) : wpList Try.prog ops Q (o :: rest) a w := by
  obtain ⟨n, D, _, h2, h3⟩ := hs
  refine wpList_lookup_own_int w hg m x 82 hop 3 3 .i64 lawI undMapI undI (zeroI w) g n D hm h2 _ _ hx (keyI i hi) (fun c hc _ => ?_)
  have e := hc.symm.trans (h3 i hi)
  simp only [DataW.lit.injEq, Lit.int.injEq, true_and] at e
  rw [e]
  exact h
theorem putT_ {rest : List Oper} {o : Oper} {a : Act} {w : World} (hd : o.dst = none) (hg : o.guard = none) {m x v : Operand} (hop : o.op = Op.mapUpdate 82 m x v)
    {g n : Nat} {f : Int → Int} (i y : Int) (hm : a.eval m = .map (some g)) (hx : a.eval x = .int .i64 i) (hv : a.eval v = .int .i64 y) (hs : IsTab w g f n) (hi : (Lit.int .i64 i).wf = true) (hy : (Lit.int .i64 y).wf = true) (hn : n < maxLen)
    (h : ∀ w', IsTab w' g (fun j => if j = i then y else f j) (n + 1) → w.grownBy w' (some g) → wpList Try.prog ops Q rest (a.put none undef) w') : wpList Try.prog ops Q (o :: rest) a w := by
  obtain ⟨n', D, h1, h2, h3⟩ := hs
  refine wpList_mapUpdate_own w hg m x v 82 hop 3 3 lawI undMapI _ g n' D hm h2 (by omega) _ _ _ hx hv (keyI i hi) _ [] (plainElem_int undI hy) ?_
  intro w' o1 o2
  rw [hd]
  refine h w' ⟨n' + 1, _, by omega, o1, ?_⟩ o2
  intro j hj
  have hM : IsMap D := by obtain ⟨es, clock, _, _, _, rfl⟩ := h2; exact ⟨_, rfl⟩
  by_cases e : j = i
  · subst e
    rw [atKey_put_same hM (lawI.key (keyI j hj))]
    simp
  · rw [atKey_put_other (by simpa using e), h3 j hj]
    simp [e]
end
theorem mat_step (l : List S83) (j : Nat) (h : j < l.length) (day : Int) (st : Int → Int) (acc r : List S47) (I : acc ++ matGo (l.drop j) day st = r) :
    (6 ≤ st (wrap64 (Int.tmod l[j].f2 4)) → acc ++ matGo (l.drop (j + 1)) (wrap64 (day + wrap64 (Int.tmod l[j].f1 4))) st = r) ∧
    (¬ 6 ≤ st (wrap64 (Int.tmod l[j].f2 4)) → (acc ++ [⟨wrap64 (1 + st (wrap64 (Int.tmod l[j].f2 4))), wrap64 (day + wrap64 (Int.tmod l[j].f1 4)), wrap64 (Int.tmod l[j].f2 4), wrap64 (Int.tmod l[j].f3 4)⟩]) ++
      matGo (l.drop (j + 1)) (wrap64 (day + wrap64 (Int.tmod l[j].f1 4))) (fun i => if i = wrap64 (Int.tmod l[j].f2 4) then wrap64 (st (wrap64 (Int.tmod l[j].f2 4)) + 1) else st i) = r) := by
  rw [List.drop_eq_getElem_cons h, matGo] at I
  constructor
  · intro h6
    rw [if_pos h6] at I
    exact I
  · intro h6
    rw [if_neg h6] at I
    rw [List.append_assoc]
    exact I
theorem meas24 {n j : Nat} {x : Int} (hx : x = ((j + 1 : Nat) : Int)) (h : j < n) : n - (intOf (.int .i64 x)).toNat < n - (intOf (.int .i64 (j : Int))).toNat := by
  subst hx
  show n - Int.toNat ((j + 1 : Nat) : Int) < n - Int.toNat (j : Int)
  rw [Int.toNat_natCast, Int.toNat_natCast]
  omega
theorem w64s (j : Nat) (h : j < 24) : wrap64 ((j : Int) + 1) = ((j + 1 : Nat) : Int) := by unfold wrap64; omega
set_option maxHeartbeats 8000000 in
set_option maxRecDepth 100000 in
theorem law0_Matters.calls (k : Nat) (A0 : Option Addr) (c0 : Nat) (l0 : List S83) (r : List S47) (w : World) (hr0 : Kd.C k83 w A0 l0.length l0) (hc0 : l0.length ≤ c0) (h : law0_Matters.f k l0 = some r) :
    Calls Try.prog 19 #[.slice A0 l0.length c0] w fun e w' => ∃ v0_ : Value, e = .returned (v0_) ∧ Kd.R k47 47 w' w.heap.size (fun _ => True) v0_ r ∧ Below w.heap.size w w' := by
  have hu := Try.underlying83
  have hu2 := Try.underlying47
  have hmm := @run_makeMap Try.prog
  have I0 : ([] : List S47) ++ matGo ((l0.take 24).drop 0) 0 (fun _ => 0) = r := Option.some.inj h
  clear h
  have HR := Aside0.mk hr0
  have R0 := Aside0.mk I0
  clear hr0 I0
  go_enter Try.func19, Try.ntmps19
  go_wp2
  have T0 := IsTab.made w
  have B0 : Below w.heap.size w (w.alloc (.map #[] 0)) := below_alloc (Below.refl _ _) _
  generalize w.alloc (.map #[] 0) = wm at T0 B0 ⊢
  have HB0 := Aside0.mk B0
  have HT0 := Aside0.mk T0
  clear B0 T0
  go_loopg [3, 4, 6] 24 (fun kx s3 s4 s6 wr => ∃ (j : Nat) (day : Int) (st : Int → Int) (acc : List S47), s4 = .int .i64 day ∧ s6 = .int .i64 j ∧ j ≤ l0.length ∧ j ≤ 24 ∧ 24 - j ≤ kx ∧ acc.length ≤ j ∧ Aside0 (IsTab wr w.heap.size st j) ∧ Aside0 (acc ++ matGo ((l0.take 24).drop j) day st = r) ∧
      Aside0 (Kd.R k47 47 wr w.heap.size (fun _ => True) s3 acc) ∧ Aside0 (Below w.heap.size w wr))
  case atStart => exact ⟨0, 0, fun _ => 0, [], rfl, rfl, Nat.zero_le _, by omega, by omega, Nat.le_refl _, HT0, R0, ⟨Kd.R_nil _ _ _ _ _⟩, HB0⟩
  case round =>
    obtain ⟨j, day, st, acc, rfl, rfl, hj, hj4, hk, hac, TT, I, RR, HB⟩ := hrel
    clear R0 HB0 HT0
    obtain ⟨A3, c3, rfl⟩ := Kd.R_slice RR.out
    by_cases hlt : j < l0.length
    · have hd : decide ((j : Int) < (l0.length : Int)) = true := decide_eq_true (by omega)
      by_cases h24 : j < 24
      · obtain ⟨k1, rfl⟩ : ∃ m, gk = m + 1 := ⟨gk - 1, by omega⟩
        have hd2 : decide ((j : Int) < 24) = true := decide_eq_true (by omega)
        have p0 : 0 ≤ (j : Int) := Int.natCast_nonneg j
        have q0 : (j : Int) < (l0.length : Int) := by omega
        have hjt : j < (l0.take 24).length := by rw [List.length_take]; omega
        have er : rd_T83 l0 (j : Int) = (l0.take 24)[j] := by
          unfold rd_T83
          rw [Int.toNat_natCast, List.getD_eq_getElem?_getD, List.getElem?_eq_getElem hlt, List.getElem_take]
          rfl
        have ms := mat_step (l0.take 24) j hjt day st acc r I.out
        obtain ⟨ad, ea, h0, h1, h2, h3⟩ := at_T83 HR.out (j : Int) p0 q0
        cases ea
        rw [er, Int.toNat_natCast] at h0 h1 h2 h3
        replace h0 := (HB.out.cell (World.block_lt_of_cell? w _ h0)).trans h0
        replace h1 := (HB.out.cell (World.block_lt_of_cell? w _ h1)).trans h1
        replace h2 := (HB.out.cell (World.block_lt_of_cell? w _ h2)).trans h2
        replace h3 := (HB.out.cell (World.block_lt_of_cell? w _ h3)).trans h3
        have hw := w64s j h24
        generalize (l0.take 24)[j] = y at *
        have p1 := eq_true p0
        have q1 := eq_true q0
        have TA := Aside0.mk (TT.out.alloc (.cells #[.int .u8 y.f0, .int .u8 y.f1, .int .u8 y.f2, .int .u8 y.f3] 83 (0, 0)))
        clear p0 q0 I er hjt
        by_cases h6 : 6 ≤ st (wrap64 (Int.tmod y.f2 4))
        · have hd3 : decide (6 ≤ st (wrap64 (Int.tmod y.f2 4))) = true := decide_eq_true h6
          have I2 := Aside0.mk (ms.1 h6)
          clear ms h6
          go_wp2_with ((with_reducible refine gate_look (t := 82) rfl ?_); refine lookT_ rfl rfl (wrap64 (Int.tmod y.f2 4)) rfl rfl TA.out (wf64 _) ?_)
          go_roundg k1
          case measure => omega
          case rel => exact ⟨j + 1, _, st, acc, rfl, by first | rw [hw] | (simp only [hw]; done) | go_num, by omega, by omega, by omega, by omega, ⟨TA.out.le (Nat.le_succ j)⟩, I2, ⟨Kd.R_alloc RR.out _⟩, ⟨below_alloc HB.out _⟩⟩
        · have hd3 : decide (6 ≤ st (wrap64 (Int.tmod y.f2 4))) = false := decide_eq_false h6
          have I2 := Aside0.mk (ms.2 h6)
          clear ms h6
          have KX := blk_new wr (.cells #[.int .u8 y.f0, .int .u8 y.f1, .int .u8 y.f2, .int .u8 y.f3] 83 (0, 0))
          have hne : some wr.heap.size ≠ some w.heap.size := by have := TT.out.lt; simp; omega
          go_wp2_with (first | ((with_reducible refine gate_look (t := 82) rfl ?_); refine lookT_ rfl rfl (wrap64 (Int.tmod y.f2 4)) rfl rfl TA.out (wf64 _) ?_) |
            ((with_reducible refine gate_put (t := 82) rfl ?_); refine putT_ rfl rfl rfl (wrap64 (Int.tmod y.f2 4)) (wrap64 (st (wrap64 (Int.tmod y.f2 4)) + 1)) rfl rfl rfl TA.out (wf64 _) (wf64 _) ?hn ?_; (case hn => unfold maxLen; omega); intro w2 T2 hg2; have K2 := blk_grown KX hg2 hne; have R2 := R_tab (Kd.R_alloc RR.out _) TA.out hg2; have B2 : Below w.heap.size w w2 := (below_alloc HB.out _).grown hg2 (below_alloc HB.out _).size (fun k hk => by cases hk; exact Nat.le_refl _); obtain ⟨kc0, kc1, kc2, kc3⟩ := cells4 ⟨K2⟩) |
            ((with_reducible refine gate_builtin (b := .append) (xs := #[.tmp 44, .tmp 54]) rfl ?_); at_builtin; refine Kd.R_append k47 (w0 := w) w.heap.size rfl (.tmp 44) (.tmp 54) 43 47 (.agg #[(.int .i64 0), (.int .i64 0), (.int .i64 0), (.int .i64 0)]) 32 rfl Try.underlying43 info47 rfl (by decide) (by omega) _ acc (⟨wrap64 (1 + st (wrap64 (Int.tmod y.f2 4))), wrap64 (day + wrap64 (Int.tmod y.f1 4)), wrap64 (Int.tmod y.f2 4), wrap64 (Int.tmod y.f3 4)⟩ : S47) [.int .i64 (wrap64 (1 + st (wrap64 (Int.tmod y.f2 4)))), .int .i64 (wrap64 (day + wrap64 (Int.tmod y.f1 4))), .int .i64 (wrap64 (Int.tmod y.f2 4)), .int .i64 (wrap64 (Int.tmod y.f3 4))] (fun _ => True) (fun _ => False) rfl rfl ?aP (fun _ hk => hk.elim) ?aF ?aO ?aB ?aS ?aL ?_; (case aP => exact k47_mkM _ _ _ (⟨_, _, _, _⟩ : S47)); (case aB => exact B2); (case aF => exact (fun _ _ => trivial)); (case aO => exact R2); (case aS => exact B2.size); (case aL => omega); intro v5 w5 ho5 hb5 hgr hat; obtain ⟨A6, c6, rfl⟩ := Kd.R_slice ho5; have T5 := T2.grown hgr (R_ne_tab R2 T2)))
          go_roundg k1
          case measure => omega
          case rel => exact ⟨j + 1, _, _, _, rfl, by first | rw [hw] | (simp only [hw]; done) | go_num, by omega, by omega, by omega, by simp; omega, ⟨T5⟩, I2, ⟨by simpa using Kd.R_mono ho5 (fun _ _ => trivial)⟩, ⟨hb5⟩⟩
      · obtain rfl : j = 24 := by omega
        have I2 := I.out
        rw [List.drop_eq_nil_of_le (by rw [List.length_take]; omega), matGo, List.append_nil] at I2
        subst I2
        have hd2 : decide (((24 : Nat) : Int) < 24) = false := decide_eq_false (by omega)
        clear TT I
        go_wp2
        go_ret
        exact ⟨_, rfl, RR.out, HB.out⟩
    · obtain rfl : j = l0.length := by omega
      have I2 := I.out
      rw [List.drop_eq_nil_of_le (by rw [List.length_take]; omega), matGo, List.append_nil] at I2
      subst I2
      have hd : decide ((l0.length : Int) < (l0.length : Int)) = false := decide_eq_false (by omega)
      clear TT I
      go_wp2
      go_ret
      exact ⟨_, rfl, RR.out, HB.out⟩
end Go.Proofs.Ytpfiecjacpbhkaa.D

namespace Go.Proofs.Ytpfiecjacpbhkaa.D
open Go.RowKit Go.Proofs.YtpfiecjacpbhkaaW.PrintWords Go.Proofs.YtpfiecjacpbhkaaW.PrintLast Go.Proofs.YtpfiecjacpbhkaaW.PrintMore
set_option linter.unusedVariables false
set_option linter.unusedSimpArgs false
def insolvencylaw33_built.l0 : Nat → List (S47) → Int → Int → Int → Int → List Int → List (S50) → Option (Int × Int × Int × List Int × (List (S50)))
 | 0, _, _, _, _, _, _, _ => none
 | k + 1, x9, x10, x339000, x339001, x339002, x339003, x339004 => if x10 < (x9.length : Int) then (if 0 ≤ x10 then ((ref_File.f k x339000 x339001 x339002 x339003 x339004 ((rd_T47 x9 x10).f0) ((rd_T47 x9 x10).f1) ((rd_T47 x9 x10).f2) ((rd_T47 x9 x10).f3)).bind fun bt343 => (if bt343.2.2.2.2.2.2 = 0 then (insolvencylaw33_built.l0 k x9 (wrap64 (x10 + 1)) bt343.1 bt343.2.1 bt343.2.2.1 bt343.2.2.2.1 bt343.2.2.2.2.1) else (insolvencylaw33_built.l0 k x9 (wrap64 (x10 + 1)) x339000 x339001 x339002 x339003 x339004))) else (none)) else (some (x339000, x339001, x339002, x339003, x339004))
def insolvencylaw33_built.f (k : Nat) (a0_0 : Int) (a0_1 : Int) (l1 : List Int) (l2 : List (S83)) : Option (Int × Int × Int × List Int × (List (S50))) := (insolvencylaw0_Terms.f k a0_0 a0_1 l1).bind fun bt323 => ((insolvencyref33_NewDocket.f 0 bt323.1 bt323.2.1 bt323.2.2).bind fun bt328 => ((law0_Matters.f k l2).bind fun t339 => (insolvencylaw33_built.l0 k t339 0 bt328.1 bt328.2.1 bt328.2.2.1 bt328.2.2.2.1 bt328.2.2.2.2.1)))
theorem insolvencylaw33_built.mono_l : ∀ k, (∀ y0 y1 y2 y3 y4 y5 y6, LeO (insolvencylaw33_built.l0 k y0 y1 y2 y3 y4 y5 y6) (insolvencylaw33_built.l0 (k + 1) y0 y1 y2 y3 y4 y5 y6))
 | 0 => fun _ _ _ _ _ _ _ r h => by simp [insolvencylaw33_built.l0] at h
 | k + 1 => by
  have ih0 := insolvencylaw33_built.mono_l k
  ·intro y0 y1 y2 y3 y4 y5 y6
   unfold insolvencylaw33_built.l0
   repeat' first
   | (with_reducible exact ih0 _ _ _ _ _ _ _)
   | (with_reducible exact insolvencylaw0_Terms.mono _ _ _ _)
   | (with_reducible exact law0_Matters.mono _ _)
   | (with_reducible exact ref_File.mono _ _ _ _ _ _ _ _ _ _)
   | (with_reducible exact LeO.refl _)
   | (with_reducible exact LeO.none _)
   | (with_reducible refine LeO.ite ?_ ?_)
   | (with_reducible refine LeO.bind ?_ (fun _ => ?_))
   | exact ih0 _ _ _ _ _ _ _
   | exact insolvencylaw0_Terms.mono _ _ _ _
   | exact law0_Matters.mono _ _
   | exact ref_File.mono _ _ _ _ _ _ _ _ _ _
   | exact LeO.none _
   | refine LeO.ite ?_ ?_
   | refine LeO.bind ?_ (fun _ => ?_)
theorem insolvencylaw33_built.mono : ∀ a0 a1 a2 a3 k, LeO (insolvencylaw33_built.f k a0 a1 a2 a3) (insolvencylaw33_built.f (k + 1) a0 a1 a2 a3) := by
 intro a0 a1 a2 a3 k
 have ih0 := insolvencylaw33_built.mono_l k
 unfold insolvencylaw33_built.f
 repeat' first
   | (with_reducible exact ih0 _ _ _ _ _ _ _)
   | (with_reducible exact insolvencylaw0_Terms.mono _ _ _ _)
   | (with_reducible exact law0_Matters.mono _ _)
   | (with_reducible exact ref_File.mono _ _ _ _ _ _ _ _ _ _)
   | (with_reducible exact LeO.refl _)
   | (with_reducible exact LeO.none _)
   | (with_reducible refine LeO.ite ?_ ?_)
   | (with_reducible refine LeO.bind ?_ (fun _ => ?_))
   | exact ih0 _ _ _ _ _ _ _
   | exact insolvencylaw0_Terms.mono _ _ _ _
   | exact law0_Matters.mono _ _
   | exact ref_File.mono _ _ _ _ _ _ _ _ _ _
   | exact LeO.none _
   | refine LeO.ite ?_ ?_
   | refine LeO.bind ?_ (fun _ => ?_)
structure BSt (w W : World) (gO gZ : Nat) (d a p : Int) (v3 v4 v7 : Value) (hs : List Int) (ms : List S50) (fl : List S47) : Prop where
  b : Below w.heap.size w W
  o : W.heap[gO]? = some (.cells #[.int .i64 d, .int .i64 a, .int .i64 p, v3, v4] 30 (0, 0))
  z : W.heap[gZ]? = some (.cells #[.int .i64 0, .int .i64 0, .int .i64 0, .slice none 0 0, .slice none 0 0] 30 (0, 0))
  r3 : Kd.R (Kd.int .i64) 3 W w.heap.size (fun _ => True) v3 hs
  r4 : Kd.R k50 50 W w.heap.size (fun _ => True) v4 ms
  r7 : Kd.R k47 47 W w.heap.size (fun _ => True) v7 fl
theorem BSt.below {w W W' : World} {gO gZ : Nat} {d a p : Int} {v3 v4 v7 : Value} {hs : List Int} {ms : List S50} {fl : List S47} (h : BSt w W gO gZ d a p v3 v4 v7 hs ms fl) (hb : Below W.heap.size W W') : BSt w W' gO gZ d a p v3 v4 v7 hs ms fl :=
  ⟨below_step h.b hb, blk_below h.o hb, blk_below h.z hb, Kd.R_below h.r3 hb, Kd.R_below h.r4 hb, Kd.R_below h.r7 hb⟩
theorem BSt.turn {w W : World} {gO gZ : Nat} {d a p d' a' p' : Int} {v3 v4 v7 v3' v4' : Value} {hs hs' : List Int} {ms ms' : List S50} {fl : List S47} (h : BSt w W gO gZ d a p v3 v4 v7 hs ms fl) (hO : w.heap.size ≤ gO) (hn : gZ ≠ gO)
    (h3 : Kd.R (Kd.int .i64) 3 W w.heap.size (fun _ => True) v3' hs') (h4 : Kd.R k50 50 W w.heap.size (fun _ => True) v4' ms') : BSt w (five W gO (.int .i64 d') (.int .i64 a') (.int .i64 p') v3' v4') gO gZ d' a' p' v3' v4' v7 hs' ms' fl :=
  ⟨five_below h.b hO _ _ _ _ _, five_blk h.o _ _ _ _ _, by
      unfold five
      exact blk_far (p := ⟨gO, 4, none⟩) (blk_far (p := ⟨gO, 3, none⟩) (blk_far (p := ⟨gO, 2, none⟩) (blk_far (p := ⟨gO, 1, none⟩) (blk_far (p := ⟨gO, 0, none⟩) h.z hn _) hn _) hn _) hn _) hn _,
    five_R h3 h.o (by decide) _ _ _ _ _, five_R h4 h.o (by decide) _ _ _ _ _, five_R h.r7 h.o (by decide) _ _ _ _ _⟩
theorem BSt.other {w W : World} {gO gZ gN : Nat} {d a p : Int} {v3 v4 v7 : Value} {hs : List Int} {ms : List S50} {fl : List S47} {y0 y1 y2 y3 y4 : Value} (h : BSt w W gO gZ d a p v3 v4 v7 hs ms fl) (hN : W.heap[gN]? = some (.cells #[y0, y1, y2, y3, y4] 30 (0, 0))) (h1 : gO ≠ gN) (h2 : gZ ≠ gN) (h3 : w.heap.size ≤ gN) (x0 x1 x2 x3 x4 : Value) :
    BSt w (five W gN x0 x1 x2 x3 x4) gO gZ d a p v3 v4 v7 hs ms fl := by
  refine ⟨five_below h.b h3 _ _ _ _ _, ?_, ?_, five_R h.r3 hN (by decide) _ _ _ _ _, five_R h.r4 hN (by decide) _ _ _ _ _, five_R h.r7 hN (by decide) _ _ _ _ _⟩
  · unfold five
    exact blk_far (p := ⟨gN, 4, none⟩) (blk_far (p := ⟨gN, 3, none⟩) (blk_far (p := ⟨gN, 2, none⟩) (blk_far (p := ⟨gN, 1, none⟩) (blk_far (p := ⟨gN, 0, none⟩) h.o h1 _) h1 _) h1 _) h1 _) h1 _
  · unfold five
    exact blk_far (p := ⟨gN, 4, none⟩) (blk_far (p := ⟨gN, 3, none⟩) (blk_far (p := ⟨gN, 2, none⟩) (blk_far (p := ⟨gN, 1, none⟩) (blk_far (p := ⟨gN, 0, none⟩) h.z h2 _) h2 _) h2 _) h2 _) h2 _
theorem elmF {e base g n cap : Nat} {ok : Nat → Prop} {W : World} {xs : List S47} (h : Kd.R k47 e W base ok (.slice (some ⟨g, 0, none⟩) n cap) xs) (i : Int) (h0 : 0 ≤ i) (h1 : i < n) (m : S47) (hm : rd_T47 xs i = m) :
    W.cell? ⟨g, i.toNat * 4, none⟩ = some (.int .i64 m.f0) ∧ W.cell? ⟨g, i.toNat * 4 + 1, none⟩ = some (.int .i64 m.f1) ∧ W.cell? ⟨g, i.toNat * 4 + 2, none⟩ = some (.int .i64 m.f2) ∧ W.cell? ⟨g, i.toNat * 4 + 3, none⟩ = some (.int .i64 m.f3) := by
  obtain ⟨ce, hcl, hM, hcc, hfr⟩ := Kd.R_elem h z47 i h0 h1
  obtain rfl := k47_openM hM
  subst hm
  exact ⟨hcc 0 _ rfl, hcc 1 _ rfl, hcc 2 _ rfl, hcc 3 _ rfl⟩
def bldWorld (w : World) (x y : Int) : World :=
  (w.alloc (.cells #[.int .u8 x, .int .u8 y] 22 (0, 0))).alloc (.cells #[.int .i64 0, .int .i64 0, .int .i64 0, .slice none 0 0, .slice none 0 0] 30 (0, 0))
theorem bldW_below (w : World) (x y : Int) : Below w.heap.size w (bldWorld w x y) := by
  unfold bldWorld
  exact below_alloc (below_alloc (Below.refl _ _) _) _
theorem bldW_res (w : World) (x y : Int) : (bldWorld w x y).heap[w.heap.size + 1]? = some (.cells #[.int .i64 0, .int .i64 0, .int .i64 0, .slice none 0 0, .slice none 0 0] 30 (0, 0)) := by
  have := blk_new (w.alloc (.cells #[.int .u8 x, .int .u8 y] 22 (0, 0))) (.cells #[.int .i64 0, .int .i64 0, .int .i64 0, .slice none 0 0, .slice none 0 0] 30 (0, 0))
  simpa [bldWorld] using this
set_option maxHeartbeats 16000000 in
set_option maxRecDepth 100000 in
theorem insolvencylaw33_built.calls (k : Nat) (a0_0 : Int) (a0_1 : Int) (A1 : Option Addr) (c1 : Nat) (l1 : List Int) (A2 : Option Addr) (c2 : Nat) (l2 : List S83) (r1 : Int) (r2 : Int) (r3 : Int) (r4 : List Int) (r5 : List S50) (w : World) (hr1 : Kd.C (Kd.int .u16) w A1 l1.length l1) (hc1 : l1.length ≤ c1) (hr2 : Kd.C k83 w A2 l2.length l2) (hc2 : l2.length ≤ c2) (h : insolvencylaw33_built.f k a0_0 a0_1 l1 l2 = some (r1, r2, r3, r4, r5)) :
    Calls Try.prog 12 #[.agg #[.int .u8 a0_0, .int .u8 a0_1], .slice A1 l1.length c1, .slice A2 l2.length c2] w fun e w' => ∃ v3_ v4_ : Value, e = .returned (.agg #[.int .i64 r1, .int .i64 r2, .int .i64 r3, v3_, v4_]) ∧ Kd.R (Kd.int .i64) 3 w' w.heap.size (fun _ => True) v3_ r4 ∧ Kd.R k50 50 w' w.heap.size (fun _ => True) v4_ r5 ∧ Below w.heap.size w w' := by
  have hu := Try.underlying30
  have hu2 := Try.underlying47
  have hu3 := Try.underlying43
  have hu4 := Try.underlying22
  unfold insolvencylaw33_built.f at h
  obtain ⟨⟨t1, t2, t3⟩, hT, h⟩ := Option.bind_eq_some_iff.mp h
  obtain ⟨⟨n1, n2, n3, n4, n5, n6⟩, hN, h⟩ := Option.bind_eq_some_iff.mp h
  obtain ⟨fl, hM, h⟩ := Option.bind_eq_some_iff.mp h
  have I0 : insolvencylaw33_built.l0 k fl 0 n1 n2 n3 n4 n5 = some (r1, r2, r3, r4, r5) := h
  clear h
  have B0 := bldW_below w a0_0 a0_1
  have K0 := bldW_res w a0_0 a0_1
  have hcT := insolvencylaw0_Terms.calls k a0_0 a0_1 A1 c1 l1 t1 t2 t3 _ (Kd.C_below hr1 B0) hc1 hT
  have hcM := fun W (hW : Below w.heap.size w W) => law0_Matters.calls k A2 c2 l2 fl W (Kd.C_below hr2 hW) hc2 hM
  have HI := Aside0.mk I0
  clear hr1 hr2 I0 hT hM
  go_enter Try.func12, Try.ntmps12
  go_upto_region 2 with (first | (go_at_call 18; change Calls _ _ _ (bldWorld w a0_0 a0_1) _; refine hcT.mono ?_; rintro e w1 ⟨v, rfl, hv, hb1⟩; obtain ⟨A3, c3, rfl⟩ := Kd.R_slice hv; have hC3 := (Kd.R_reads' hv).2; have hcN := insolvencyref33_NewDocket.calls 0 t1 t2 A3 c3 t3 n1 n2 n3 n4 n5 n6 w1 hC3.2 hC3.1 hN) | (go_at_call 22; refine hcN.mono ?_; rintro e w2 ⟨v3, v4, rfl, hv3, hv4, hb2⟩; obtain ⟨A4, c4, rfl⟩ := Kd.R_slice hv3; obtain ⟨A5, c5, rfl⟩ := Kd.R_slice hv4))
  have BO : Below w.heap.size w w2 := below_step (below_step B0 hb1) hb2
  have KZ := blk_alloc (blk_below (blk_below K0 hb1) hb2) (.cells #[.int .i64 n1, .int .i64 n2, .int .i64 n3, .slice A4 n4.length c4, .slice A5 n5.length c5] 30 (0, 0))
  have KO := blk_new w2 (.cells #[.int .i64 n1, .int .i64 n2, .int .i64 n3, .slice A4 n4.length c4, .slice A5 n5.length c5] 30 (0, 0))
  have BO2 := below_alloc BO (.cells #[.int .i64 n1, .int .i64 n2, .int .i64 n3, .slice A4 n4.length c4, .slice A5 n5.length c5] 30 (0, 0))
  have Q3 := Kd.R_alloc (Kd.R_lower hv3 (below_step B0 hb1).size) (.cells #[.int .i64 n1, .int .i64 n2, .int .i64 n3, .slice A4 n4.length c4, .slice A5 n5.length c5] 30 (0, 0))
  have Q4 := Kd.R_alloc (Kd.R_lower hv4 (below_step B0 hb1).size) (.cells #[.int .i64 n1, .int .i64 n2, .int .i64 n3, .slice A4 n4.length c4, .slice A5 n5.length c5] 30 (0, 0))
  have gO0 : w.heap.size ≤ w2.heap.size := BO.size
  have gZ0 : w.heap.size ≤ w.heap.size + 1 := Nat.le_succ _
  have nZ : w.heap.size + 1 ≠ w2.heap.size := Nat.ne_of_lt (blk_lt (blk_below (blk_below K0 hb1) hb2))
  generalize w2.alloc (.cells #[.int .i64 n1, .int .i64 n2, .int .i64 n3, .slice A4 n4.length c4, .slice A5 n5.length c5] 30 (0, 0)) = W3 at *
  generalize w2.heap.size = gO at *
  generalize w.heap.size + 1 = gZ at *
  clear B0 K0 hcT hb1 hb2 BO hv hv3 hv4 hC3 hcN hN
  go_wp2_with (go_at_call 19; refine (hcM _ BO2).mono ?_; rintro e w4 ⟨v7, rfl, hv7, hb4⟩; obtain ⟨A7, c7, rfl⟩ := Kd.R_slice hv7)
  have S0 : BSt w w4 gO gZ n1 n2 n3 (.slice A4 n4.length c4) (.slice A5 n5.length c5) (.slice A7 fl.length c7) n4 n5 fl :=
    ⟨below_step BO2 hb4, blk_below KO hb4, blk_below KZ hb4, Kd.R_below Q3 hb4, Kd.R_below Q4 hb4, Kd.R_lower hv7 BO2.size⟩
  have SS := Aside0.mk S0
  clear S0 KZ KO BO2 Q3 Q4 hcM hv7 hb4
  go_loopg [10] k (fun kx s10 wr => ∃ (x d a p : Int) (hs : List Int) (ms : List S50) (v3 v4 : Value), s10 = .int .i64 x ∧ Aside0 (insolvencylaw33_built.l0 kx fl x d a p hs ms = some (r1, r2, r3, r4, r5)) ∧ Aside0 (BSt w wr gO gZ d a p v3 v4 (.slice A7 fl.length c7) hs ms fl))
  case atStart => exact ⟨0, n1, n2, n3, n4, n5, _, _, rfl, HI, SS⟩
  case round =>
    obtain ⟨x, d, a, p, hs, ms, v3, v4, rfl, HI2, S⟩ := hrel
    clear HI SS
    obtain ⟨k1, rfl⟩ : ∃ m, gk = m + 1 := by
      cases gk with
      | zero => have := HI2.out; cases this
      | succ m => exact ⟨m, rfl⟩
    have I := HI2.out
    rw [insolvencylaw33_built.l0] at I
    clear HI2
    obtain ⟨B3, d3, rfl⟩ := Kd.R_slice S.out.r3
    obtain ⟨B4, d4, rfl⟩ := Kd.R_slice S.out.r4
    obtain ⟨o0, o1, o2, o3, o4⟩ := cells5 ⟨S.out.o⟩
    by_cases hlt : x < (fl.length : Int)
    · rw [if_pos hlt] at I
      by_cases h0 : 0 ≤ x
      case neg => rw [if_neg h0] at I; cases I
      rw [if_pos h0] at I
      have hd : decide (x < (fl.length : Int)) = true := decide_eq_true hlt
      obtain ⟨g7, c7', eq7, -, hg7, -⟩ := Kd.R_form S.out.r7 (by omega)
      injection eq7 with e7 e8 e9
      subst e7
      clear e8 e9 c7'
      generalize hy : rd_T47 fl x = y at *
      obtain ⟨f0, f1, f2, f3⟩ := elmF S.out.r7 x h0 hlt y hy
      have p1 : (0 ≤ x) = True := eq_true h0
      have p2 : (x < (fl.length : Int)) = True := eq_true hlt
      obtain ⟨⟨s1, s2, s3, s4, s5, s6, s7⟩, hF, I2⟩ := Option.bind_eq_some_iff.mp I
      have hcal : ∀ W, Below wr.heap.size wr W → Calls Try.prog 28 #[.agg #[.int .i64 d, .int .i64 a, .int .i64 p, .slice B3 hs.length d3, .slice B4 ms.length d4], .agg #[.int .i64 y.f0, .int .i64 y.f1, .int .i64 y.f2, .int .i64 y.f3]] W fun e w' => ∃ u3 u4 u5 : Value, e = .returned (.tuple #[.agg #[.int .i64 s1, .int .i64 s2, .int .i64 s3, u3, u4], u5, .int .i64 s7]) ∧
          Kd.R (Kd.int .i64) 3 w' w.heap.size (fun _ => True) u3 s4 ∧ Kd.R k50 50 w' w.heap.size (fun _ => True) u4 s5 ∧ Kd.R k52 52 w' w.heap.size (fun _ => True) u5 s6 ∧ Below wr.heap.size wr w' ∧ Below W.heap.size W w' := by
        intro W hW
        refine (ref_File.calls k1 d a p B3 d3 hs B4 d4 ms y.f0 y.f1 y.f2 y.f3 s1 s2 s3 s4 s5 s6 s7 W (Kd.C_below (Kd.R_reads' S.out.r3).2.2 hW) (Kd.R_reads' S.out.r3).2.1 (Kd.C_below (Kd.R_reads' S.out.r4).2.2 hW) (Kd.R_reads' S.out.r4).2.1 hF).mono ?_
        rintro e w' ⟨u3, u4, u5, he, q1, q2, q3, hb⟩
        have hs' : w.heap.size ≤ W.heap.size := Nat.le_trans S.out.b.size hW.size
        exact ⟨u3, u4, u5, he, Kd.R_lower q1 hs', Kd.R_lower q2 hs', Kd.R_lower q3 hs', below_step hW hb, hb⟩
      have I3 := Aside0.mk I2
      clear I I2 hF hy h0 hlt
      dsimp only at I3
      go_wp2_with (fail)
      obtain ⟨u0, u1, u2, u3', u4', u5', u6', u7', u8'⟩ : wr.drew.cell? ⟨gO, 0, none⟩ = some (.int .i64 d) ∧ wr.drew.cell? ⟨gO, 1, none⟩ = some (.int .i64 a) ∧ wr.drew.cell? ⟨gO, 2, none⟩ = some (.int .i64 p) ∧ wr.drew.cell? ⟨gO, 3, none⟩ = some (.slice B3 hs.length d3) ∧ wr.drew.cell? ⟨gO, 4, none⟩ = some (.slice B4 ms.length d4) ∧ wr.drew.cell? ⟨g7, x.toNat * 4, none⟩ = some (.int .i64 y.f0) ∧ wr.drew.cell? ⟨g7, x.toNat * 4 + 1, none⟩ = some (.int .i64 y.f1) ∧ wr.drew.cell? ⟨g7, x.toNat * 4 + 2, none⟩ = some (.int .i64 y.f2) ∧ wr.drew.cell? ⟨g7, x.toNat * 4 + 3, none⟩ = some (.int .i64 y.f3) := ⟨o0, o1, o2, o3, o4, f0, f1, f2, f3⟩
      have nn1 := World.new_ne wr _ o0
      have nn2 := World.new_ne wr _ f0
      go_region_held3 (fun w_ => (w_.cell? ⟨gO, 0, none⟩ = some (.int .i64 d) ∧ w_.cell? ⟨gO, 1, none⟩ = some (.int .i64 a) ∧ w_.cell? ⟨gO, 2, none⟩ = some (.int .i64 p) ∧ w_.cell? ⟨gO, 3, none⟩ = some (.slice B3 hs.length d3) ∧ w_.cell? ⟨gO, 4, none⟩ = some (.slice B4 ms.length d4)) ∧ w_.cell? ⟨g7, x.toNat * 4, none⟩ = some (.int .i64 y.f0) ∧ w_.cell? ⟨g7, x.toNat * 4 + 1, none⟩ = some (.int .i64 y.f1) ∧ w_.cell? ⟨g7, x.toNat * 4 + 2, none⟩ = some (.int .i64 y.f2) ∧ w_.cell? ⟨g7, x.toNat * 4 + 3, none⟩ = some (.int .i64 y.f3)) (first | (with_reducible exact ⟨⟨o0, o1, o2, o3, o4⟩, f0, f1, f2, f3⟩) | (with_reducible exact ⟨⟨u0, u1, u2, u3', u4'⟩, u5', u6', u7', u8'⟩) | (with_reducible exact ⟨⟨o0', o1', o2', o3', o4'⟩, f0', f1', f2', f3'⟩) | go_keep)
        (first | (go_at_call 28; refine (hcal _ (by repeat (first | exact Below.refl _ _ | apply below_drew1 | apply below_alloc | apply pw_below_drewN))).mono ?_; rintro e w5 ⟨u3, u4, u5, rfl, hu3', hu4', hu5', hb5, hbW⟩; obtain ⟨D3, q3, rfl⟩ := Kd.R_slice hu3'; obtain ⟨D4, q4, rfl⟩ := Kd.R_slice hu4'; obtain ⟨D5, q5, rfl⟩ := Kd.R_slice hu5'; have o0' := pw_cell_below hb5 o0; have o1' := pw_cell_below hb5 o1; have o2' := pw_cell_below hb5 o2; have o3' := pw_cell_below hb5 o3; have o4' := pw_cell_below hb5 o4; have f0' := pw_cell_below hb5 f0; have f1' := pw_cell_below hb5 f1; have f2' := pw_cell_below hb5 f2; have f3' := pw_cell_below hb5 f3; have nn3 := World.new_ne w5 _ o0'; have nn4 := World.new_ne w5 _ f0'; try (have KN : w5.heap[wr.heap.size]? = some (.cells #[.int .i64 0, .int .i64 0, .int .i64 0, .slice none 0 0, .slice none 0 0] 30 (0, 0)) := blk_below (w := (wr.alloc (.cells #[.int .i64 0, .int .i64 0, .int .i64 0, .slice none 0 0, .slice none 0 0] 30 (0, 0))).drew) (blk_drew (blk_new wr _)) (by with_reducible exact hbW); obtain ⟨z0, z1, z2, z3, z4⟩ := cells5 ⟨KN⟩; obtain ⟨x0, x1, x2, x3, x4⟩ := frz5 ⟨KN⟩)))
      all_goals have S5 := S.out.below hb5
      all_goals have gO1 := blk_lt S.out.o
      all_goals have gZ1 := blk_lt S.out.z
      all_goals have gO2 := blk_lt S5.o
      all_goals have gZ2 := blk_lt S5.z
      all_goals have gw := S.out.b.size
      all_goals first
        | (change Exit.then _ _ _ _ (five w5 wr.heap.size (.int .i64 s1) (.int .i64 s2) (.int .i64 s3) (.slice D3 s4.length q3) (.slice D4 s5.length q4))
           have S6 := S5.other KN (by omega) (by omega) gw (.int .i64 s1) (.int .i64 s2) (.int .i64 s3) (.slice D3 s4.length q3) (.slice D4 s5.length q4)
           have KN6 := five_blk KN (.int .i64 s1) (.int .i64 s2) (.int .i64 s3) (.slice D3 s4.length q3) (.slice D4 s5.length q4)
           have T3 := five_R hu3' KN (by decide) (.int .i64 s1) (.int .i64 s2) (.int .i64 s3) (.slice D3 s4.length q3) (.slice D4 s5.length q4)
           have T4 := five_R hu4' KN (by decide) (.int .i64 s1) (.int .i64 s2) (.int .i64 s3) (.slice D3 s4.length q3) (.slice D4 s5.length q4)
           generalize five w5 wr.heap.size (.int .i64 s1) (.int .i64 s2) (.int .i64 s3) (.slice D3 s4.length q3) (.slice D4 s5.length q4) = W6 at *
           generalize wr.heap.size = gN at *)
        | (change Exit.then _ _ _ _ (w5.alloc (.cells #[.int .i64 s1, .int .i64 s2, .int .i64 s3, .slice D3 s4.length q3, .slice D4 s5.length q4] 30 (0, 0)))
           have S6 := S5.below (below_alloc (Below.refl w5.heap.size w5) (.cells #[.int .i64 s1, .int .i64 s2, .int .i64 s3, .slice D3 s4.length q3, .slice D4 s5.length q4] 30 (0, 0)))
           have KN6 := blk_new w5 (.cells #[.int .i64 s1, .int .i64 s2, .int .i64 s3, .slice D3 s4.length q3, .slice D4 s5.length q4] 30 (0, 0))
           have T3 := Kd.R_alloc hu3' (.cells #[.int .i64 s1, .int .i64 s2, .int .i64 s3, .slice D3 s4.length q3, .slice D4 s5.length q4] 30 (0, 0))
           have T4 := Kd.R_alloc hu4' (.cells #[.int .i64 s1, .int .i64 s2, .int .i64 s3, .slice D3 s4.length q3, .slice D4 s5.length q4] 30 (0, 0))
           generalize w5.alloc (.cells #[.int .i64 s1, .int .i64 s2, .int .i64 s3, .slice D3 s4.length q3, .slice D4 s5.length q4] 30 (0, 0)) = W6 at *
           generalize w5.heap.size = gN at *)
      all_goals clear o0 o1 o2 o3 o4 f0 f1 f2 f3 o0' o1' o2' o3' o4' f0' f1' f2' f3' u0 u1 u2 u3' u4' u5' u6' u7' u8' nn1 nn2 nn3 nn4 gO1 gZ1 gO2 gZ2 gw hb5 hbW hu3' hu4' hu5' S5 S hcal
      all_goals try clear z0 z1 z2 z3 z4 x0 x1 x2 x3 x4 KN
      all_goals obtain ⟨n0', n1', n2', n3', n4'⟩ := cells5 ⟨KN6⟩
      all_goals obtain ⟨o0, o1, o2, o3, o4⟩ := cells5 ⟨S6.o⟩
      all_goals obtain ⟨x0, x1, x2, x3, x4⟩ := frz5 ⟨S6.o⟩
      all_goals have S7 := S6.turn (d' := s1) (a' := s2) (p' := s3) gO0 nZ T3 T4
      all_goals have HS6 := Aside0.mk S6
      all_goals have HS7 := Aside0.mk S7
      all_goals clear S6 S7 T3 T4 KN6
      all_goals have HIO := I3.out
      all_goals by_cases he : s7 = 0
      all_goals first
        | (rw [if_pos he] at HIO
           have HI4 := Aside0.mk HIO
           have he2 : (s7 == 0) = true := by simpa using he
           clear HIO I3
           go_wp2
           go_roundg k1
           case measure => omega
           case rel => exact ⟨_, s1, s2, s3, s4, s5, _, _, rfl, HI4, HS7⟩)
        | (rw [if_neg he] at HIO
           have HI4 := Aside0.mk HIO
           have he2 : (s7 == 0) = false := by simpa using he
           clear HIO I3
           go_wp2
           go_roundg k1
           case measure => omega
           case rel => exact ⟨_, d, a, p, hs, ms, _, _, rfl, HI4, HS6⟩)
    · rw [if_neg hlt] at I
      have hd : decide (x < (fl.length : Int)) = false := decide_eq_false hlt
      have I2 := Option.some.inj I
      injection I2 with i1 I2
      injection I2 with i2 I2
      injection I2 with i3 I2
      injection I2 with i4 i5
      subst i1 i2 i3 i4 i5
      obtain ⟨z0, z1, z2, z3, z4⟩ := cells5 ⟨S.out.z⟩
      obtain ⟨x0, x1, x2, x3, x4⟩ := frz5 ⟨S.out.z⟩
      go_wp2
      refine bodyPost_ret (results_cell_row rfl _ _ gZ 30 _ (0, 0) _ rfl (five_blk S.out.z _ _ _ _ _) Try.underlying30 rfl (by kernel_rfl)) rfl ?_
      exact ⟨_, _, rfl, five_R S.out.r3 S.out.z (by decide) _ _ _ _ _, five_R S.out.r4 S.out.z (by decide) _ _ _ _ _, five_below S.out.b gZ0 _ _ _ _ _⟩
end Go.Proofs.Ytpfiecjacpbhkaa.D

namespace Go.Proofs.Ytpfiecjacpbhkaa.D
open Go.RowKit Go.Proofs.YtpfiecjacpbhkaaW.PrintWords Go.Proofs.YtpfiecjacpbhkaaW.PrintLast Go.Proofs.YtpfiecjacpbhkaaW.PrintMore
attribute [local go_sem] max2_int min2_int max_two min_two max_three min_three max_four min_four
set_option linter.unusedVariables false
set_option linter.unusedSimpArgs false
attribute [local go_sem high] eqA52
def insolvencyref33_SameRulings.l0 : Nat → List (S52) → List (S52) → Int → Option (Bool)
 | 0, _, _, _ => none
 | k + 1, x0, x1, x5 => if x5 < (x0.length : Int) then (if 0 ≤ x5 then (if x5 < (x1.length : Int) then (if (!(((rd_T52 x0 x5).f0) == ((rd_T52 x1 x5).f0)) || (!(((rd_T52 x0 x5).f1) == ((rd_T52 x1 x5).f1)) || (!(((rd_T52 x0 x5).f2) == ((rd_T52 x1 x5).f2))))) = true then (none) else (insolvencyref33_SameRulings.l0 k x0 x1 (wrap64 (x5 + 1)))) else (none)) else (none)) else (some true)
def insolvencyref33_SameRulings.f (k : Nat) (l0 : List (S52)) (l1 : List (S52)) : Option (Bool) := if (l0.length : Int) = (l1.length : Int) then (insolvencyref33_SameRulings.l0 k l0 l1 0) else (none)
theorem insolvencyref33_SameRulings.mono_l : ∀ k, (∀ y0 y1 y2, LeO (insolvencyref33_SameRulings.l0 k y0 y1 y2) (insolvencyref33_SameRulings.l0 (k + 1) y0 y1 y2))
 | 0 => fun _ _ _ r h => by simp [insolvencyref33_SameRulings.l0] at h
 | k + 1 => by
  have ih0 := insolvencyref33_SameRulings.mono_l k
  ·intro y0 y1 y2
   unfold insolvencyref33_SameRulings.l0
   repeat' first
   | (with_reducible exact ih0 _ _ _)
   | (with_reducible exact LeO.refl _)
   | (with_reducible exact LeO.none _)
   | (with_reducible refine LeO.ite ?_ ?_)
   | (with_reducible refine LeO.bind ?_ (fun _ => ?_))
   | exact ih0 _ _ _
   | exact LeO.none _
   | refine LeO.ite ?_ ?_
   | refine LeO.bind ?_ (fun _ => ?_)
theorem insolvencyref33_SameRulings.mono : ∀ a0 a1 k, LeO (insolvencyref33_SameRulings.f k a0 a1) (insolvencyref33_SameRulings.f (k + 1) a0 a1) := by
 intro a0 a1 k
 have ih0 := insolvencyref33_SameRulings.mono_l k
 unfold insolvencyref33_SameRulings.f
 repeat' first
   | (with_reducible exact ih0 _ _ _)
   | (with_reducible exact LeO.refl _)
   | (with_reducible exact LeO.none _)
   | (with_reducible refine LeO.ite ?_ ?_)
   | (with_reducible refine LeO.bind ?_ (fun _ => ?_))
   | exact ih0 _ _ _
   | exact LeO.none _
   | refine LeO.ite ?_ ?_
   | refine LeO.bind ?_ (fun _ => ?_)
set_option maxHeartbeats 8000000 in
set_option maxRecDepth 100000 in
theorem insolvencyref33_SameRulings.calls (k : Nat) (A0 : Option Addr) (c0 : Nat) (l0 : List (S52)) (A1 : Option Addr) (c1 : Nat) (l1 : List (S52)) (r : Bool) (w : World) (hr0 : Kd.C k52 w A0 l0.length l0) (hc0 : l0.length ≤ c0) (hr1 : Kd.C k52 w A1 l1.length l1) (hc1 : l1.length ≤ c1) (h : insolvencyref33_SameRulings.f k l0 l1 = some r) :
  Calls Try.prog 16 #[.slice A0 l0.length c0, .slice A1 l1.length c1] w fun e w' => e = .returned (.bool r) ∧ Drawn0 w w' := by
 have hu52 := Try.underlying52
 have HR0 := Aside0.mk hr0
 have HC0 := Aside0.mk hc0
 clear hr0 hc0
 have HR1 := Aside0.mk hr1
 have HC1 := Aside0.mk hc1
 clear hr1 hc1
 have H : (if (l0.length : Int) = (l1.length : Int) then (insolvencyref33_SameRulings.l0 k l0 l1 0) else (none)) = some r := h
 clear h
 by_cases c3 : (l0.length : Int) = (l1.length : Int)
 ·rw [if_pos c3] at H
  have c3b0 : ((l0.length : Int) == (l1.length : Int)) = true := beq_iff_eq.mpr c3
  have c3b1 : ((l0.length : Int) != (l1.length : Int)) = false := bne_eq_false_iff_eq.mpr c3
  have c3b2 : (l0.length == l1.length) = true := by first | simpa using c3 | (simp at c3 ⊢; omega)
  clear c3
  have H' := Aside0.mk H
  clear H
  go_enter Try.func16, Try.ntmps16
  go_wp2
  repeat (go_quiet (fail); try go_wp2)
  go_loopg [5] k (fun kq v5 w' => ∃ (x5_1 : Int), v5 = .int .i64 x5_1 ∧ Aside0 (insolvencyref33_SameRulings.l0 kq l0 l1 x5_1 = some r) ∧ Aside0 (kq ≤ k) ∧ Drawn0 w w')
  case atStart => exact ⟨(0), (by first | rfl | (simp; done) | (simp [*]; done)), H', ⟨Nat.le_refl _⟩, by repeat (first | exact Drawn0.refl _ | apply Drawn0.step)⟩
  case round =>
   clear H'
   try clear c1
   try clear p2
   try clear c3
   try clear c3b0
   try clear c3b1
   try clear c3b2
   obtain ⟨x5_1, rfl, HA, HK1, ⟨m1, rfl⟩⟩ := hrel
   cases gk with
   | zero => exact absurd HA.out (by simp [insolvencyref33_SameRulings.l0])
   | succ k1 =>
    have H := HA.out
    clear HA
    simp only [insolvencyref33_SameRulings.l0] at H
    by_cases c4 : x5_1 < (l0.length : Int)
    ·rw [if_pos c4] at H
     have c4b0 : decide (x5_1 < (l0.length : Int)) = true := decide_eq_true c4
     clear c4
     by_cases c5 : 0 ≤ x5_1
     ·rw [if_pos c5] at H
      have c5b0 : decide (0 ≤ x5_1) = true := decide_eq_true c5
      clear c5
      by_cases c6 : x5_1 < (l1.length : Int)
      ·rw [if_pos c6] at H
       have c6b0 : decide (x5_1 < (l1.length : Int)) = true := decide_eq_true c6
       clear c6
       by_cases c7 : (!(((rd_T52 l0 x5_1).f0) == ((rd_T52 l1 x5_1).f0)) || (!(((rd_T52 l0 x5_1).f1) == ((rd_T52 l1 x5_1).f1)) || (!(((rd_T52 l0 x5_1).f2) == ((rd_T52 l1 x5_1).f2))))) = true
       ·rw [if_pos c7] at H
        exact absurd H (by simp)
       ·rw [if_neg c7] at H
        have c7b0 : (!(((rd_T52 l0 x5_1).f0) == ((rd_T52 l1 x5_1).f0)) || (!(((rd_T52 l0 x5_1).f1) == ((rd_T52 l1 x5_1).f1)) || (!(((rd_T52 l0 x5_1).f2) == ((rd_T52 l1 x5_1).f2))))) = false := by simpa using c7
        clear c7
        have H' := Aside0.mk H
        clear H
        have p431 : 0 ≤ (x5_1 : Int) := of_decide_eq_true (by first | (with_reducible assumption) | assumption)
        have q431 : x5_1 < (l0.length : Int) := of_decide_eq_true (by first | (with_reducible assumption) | assumption)
        obtain ⟨ad431, e431, hx431_0, hx431_1, hx431_2⟩ := at_T52 HR0.out x5_1 p431 q431
        cases e431
        replace p431 := eq_true p431
        replace q431 := eq_true q431
        have p432 : 0 ≤ (x5_1 : Int) := of_decide_eq_true (by first | (with_reducible assumption) | assumption)
        have q432 : x5_1 < (l1.length : Int) := of_decide_eq_true (by first | (with_reducible assumption) | assumption)
        obtain ⟨ad432, e432, hx432_0, hx432_1, hx432_2⟩ := at_T52 HR1.out x5_1 p432 q432
        cases e432
        replace p432 := eq_true p432
        replace q432 := eq_true q432
        go_wp2
        repeat (go_quiet (fail); try go_wp2)
        go_roundg k1
        case measure => have := HK1.out; omega
        case rel => exact ⟨(wrap64 (x5_1 + 1)), (by first | rfl | (simp; done) | (simp [*]; done)), H', ⟨by have := HK1.out; omega⟩, by repeat (first | exact Drawn0.refl _ | apply Drawn0.step)⟩
      ·rw [if_neg c6] at H
       exact absurd H (by simp)
     ·rw [if_neg c5] at H
      exact absurd H (by simp)
    ·rw [if_neg c4] at H
     have c4b0 : decide (x5_1 < (l0.length : Int)) = false := decide_eq_false c4
     clear c4
     obtain rfl := Option.some.inj H
     go_wp2
     repeat (go_quiet (fail); try go_wp2)
     go_ret
     exact ⟨by first | rfl | (simp; done) | (simp [*]; done), by repeat (first | exact Drawn0.refl _ | apply Drawn0.step)⟩
 ·rw [if_neg c3] at H
  exact absurd H (by simp)
end Go.Proofs.Ytpfiecjacpbhkaa.D

namespace Go.Proofs.Ytpfiecjacpbhkaa.D
open Go.RowKit Go.Proofs.YtpfiecjacpbhkaaW.PrintWords Go.Proofs.YtpfiecjacpbhkaaW.PrintLast Go.Proofs.YtpfiecjacpbhkaaW.PrintMore
attribute [local go_sem] max2_int min2_int max_two min_two max_three min_three max_four min_four
set_option linter.unusedVariables false
set_option linter.unusedSimpArgs false
def insolvencylaw33_DocketFile.j0 : Nat → Int → Int → Int → Int → Int → Int → Int → List Int → List (S50) → Int → Int → Int → Int → Option (Bool)
 | 0, _, _, _, _, _, _, _, _, _, _, _, _, _ => none
 | k + 1, x574000, x574001, x574002, x574003, x584000, x584001, x584002, x584003, x584004, x585000, x585001, x585002, x585003 => (docket_File.f k x584000 x584001 x584002 x584003 x584004 x585000 x585001 x585002 x585003).bind fun bt585 => ((ref_File.f k x584000 x584001 x584002 x584003 x584004 x585000 x585001 x585002 x585003).bind fun bt599 => ((docket_File.f k x584000 x584001 x584002 x584003 x584004 x574000 x574001 x574002 x574003).bind fun bt613 => ((ref_File.f k x584000 x584001 x584002 x584003 x584004 x574000 x574001 x574002 x574003).bind fun bt627 => ((insolvencylaw33_awake.f k).bind fun t641 => (if t641 = true then (if bt585.2.2.2.2.2.2 = bt599.2.2.2.2.2.2 then ((insolvencyref33_SameDocket.f k bt585.1 bt585.2.1 bt585.2.2.1 bt585.2.2.2.1 bt585.2.2.2.2.1 bt599.1 bt599.2.1 bt599.2.2.1 bt599.2.2.2.1 bt599.2.2.2.2.1).bind fun t642 => (if t642 = true then ((insolvencyref33_SameRulings.f k bt585.2.2.2.2.2.1 bt599.2.2.2.2.2.1).bind fun t643 => (if t643 = true then (some (bt613.2.2.2.2.2.2 == bt627.2.2.2.2.2.2)) else (none))) else (none))) else (none)) else (none))))))
def insolvencylaw33_DocketFile.f (k : Nat) (a0_0 : Int) (a0_1 : Int) (l1 : List Int) (l2 : List (S83)) (a3_0 : Int) (a3_1 : Int) (a3_2 : Int) (a3_3 : Int) (a4 : Int) (a5 : Int) (a6 : Int) (a7 : Int) (a8 : Bool) : Option (Bool) := (insolvencylaw33_built.f k a0_0 a0_1 l1 l2).bind fun bt574 => (if a8 = true then (insolvencylaw33_DocketFile.j0 k a3_0 a3_1 a3_2 a3_3 bt574.1 bt574.2.1 bt574.2.2.1 bt574.2.2.2.1 bt574.2.2.2.2 (wrap64 (Int.tmod a4 8)) (wrap64 (1048576 - (wrap64 (Int.tmod a6 12)))) (wrap64 ((wrap64 (Int.tmod a5 5)) - ((Int.tdiv a5 250) % 256))) (wrap64 ((wrap64 (Int.tmod a6 6)) - 1))) else (insolvencylaw33_DocketFile.j0 k a3_0 a3_1 a3_2 a3_3 bt574.1 bt574.2.1 bt574.2.2.1 bt574.2.2.2.1 bt574.2.2.2.2 (wrap64 (Int.tmod a4 8)) (wrap64 (bt574.1 + (wrap64 (Int.tmod a7 40)))) (wrap64 ((wrap64 (Int.tmod a5 5)) - ((Int.tdiv a5 250) % 256))) (wrap64 ((wrap64 (Int.tmod a6 6)) - 1))))
theorem insolvencylaw33_DocketFile.mono_l : ∀ k, (∀ y0 y1 y2 y3 y4 y5 y6 y7 y8 y9 y10 y11 y12, LeO (insolvencylaw33_DocketFile.j0 k y0 y1 y2 y3 y4 y5 y6 y7 y8 y9 y10 y11 y12) (insolvencylaw33_DocketFile.j0 (k + 1) y0 y1 y2 y3 y4 y5 y6 y7 y8 y9 y10 y11 y12))
 | 0 => fun _ _ _ _ _ _ _ _ _ _ _ _ _ r h => by simp [insolvencylaw33_DocketFile.j0] at h
 | k + 1 => by
  have ih0 := insolvencylaw33_DocketFile.mono_l k
  ·intro y0 y1 y2 y3 y4 y5 y6 y7 y8 y9 y10 y11 y12
   unfold insolvencylaw33_DocketFile.j0
   repeat' first
   | (with_reducible exact ih0 _ _ _ _ _ _ _ _ _ _ _ _ _)
   | (with_reducible exact docket_File.mono _ _ _ _ _ _ _ _ _ _)
   | (with_reducible exact insolvencylaw33_awake.mono _)
   | (with_reducible exact insolvencylaw33_built.mono _ _ _ _ _)
   | (with_reducible exact insolvencyref33_SameDocket.mono _ _ _ _ _ _ _ _ _ _ _)
   | (with_reducible exact insolvencyref33_SameRulings.mono _ _ _)
   | (with_reducible exact ref_File.mono _ _ _ _ _ _ _ _ _ _)
   | (with_reducible exact LeO.refl _)
   | (with_reducible exact LeO.none _)
   | (with_reducible refine LeO.ite ?_ ?_)
   | (with_reducible refine LeO.bind ?_ (fun _ => ?_))
   | exact ih0 _ _ _ _ _ _ _ _ _ _ _ _ _
   | exact docket_File.mono _ _ _ _ _ _ _ _ _ _
   | exact insolvencylaw33_awake.mono _
   | exact insolvencylaw33_built.mono _ _ _ _ _
   | exact insolvencyref33_SameDocket.mono _ _ _ _ _ _ _ _ _ _ _
   | exact insolvencyref33_SameRulings.mono _ _ _
   | exact ref_File.mono _ _ _ _ _ _ _ _ _ _
   | exact LeO.none _
   | refine LeO.ite ?_ ?_
   | refine LeO.bind ?_ (fun _ => ?_)
theorem insolvencylaw33_DocketFile.mono : ∀ a0 a1 a2 a3 a4 a5 a6 a7 a8 a9 a10 a11 a12 k, LeO (insolvencylaw33_DocketFile.f k a0 a1 a2 a3 a4 a5 a6 a7 a8 a9 a10 a11 a12) (insolvencylaw33_DocketFile.f (k + 1) a0 a1 a2 a3 a4 a5 a6 a7 a8 a9 a10 a11 a12) := by
 intro a0 a1 a2 a3 a4 a5 a6 a7 a8 a9 a10 a11 a12 k
 have ih0 := insolvencylaw33_DocketFile.mono_l k
 unfold insolvencylaw33_DocketFile.f
 repeat' first
   | (with_reducible exact ih0 _ _ _ _ _ _ _ _ _ _ _ _ _)
   | (with_reducible exact docket_File.mono _ _ _ _ _ _ _ _ _ _)
   | (with_reducible exact insolvencylaw33_awake.mono _)
   | (with_reducible exact insolvencylaw33_built.mono _ _ _ _ _)
   | (with_reducible exact insolvencyref33_SameDocket.mono _ _ _ _ _ _ _ _ _ _ _)
   | (with_reducible exact insolvencyref33_SameRulings.mono _ _ _)
   | (with_reducible exact ref_File.mono _ _ _ _ _ _ _ _ _ _)
   | (with_reducible exact LeO.refl _)
   | (with_reducible exact LeO.none _)
   | (with_reducible refine LeO.ite ?_ ?_)
   | (with_reducible refine LeO.bind ?_ (fun _ => ?_))
   | exact ih0 _ _ _ _ _ _ _ _ _ _ _ _ _
   | exact docket_File.mono _ _ _ _ _ _ _ _ _ _
   | exact insolvencylaw33_awake.mono _
   | exact insolvencylaw33_built.mono _ _ _ _ _
   | exact insolvencyref33_SameDocket.mono _ _ _ _ _ _ _ _ _ _ _
   | exact insolvencyref33_SameRulings.mono _ _ _
   | exact ref_File.mono _ _ _ _ _ _ _ _ _ _
   | exact LeO.none _
   | refine LeO.ite ?_ ?_
   | refine LeO.bind ?_ (fun _ => ?_)
set_option maxHeartbeats 8000000 in
set_option maxRecDepth 100000 in
theorem insolvencylaw33_DocketFile.calls (k : Nat) (a0_0 : Int) (a0_1 : Int) (A1 : Option Addr) (c1 : Nat) (l1 : List Int) (A2 : Option Addr) (c2 : Nat) (l2 : List (S83)) (a3_0 : Int) (a3_1 : Int) (a3_2 : Int) (a3_3 : Int) (a4 : Int) (a5 : Int) (a6 : Int) (a7 : Int) (a8 : Bool) (r : Bool) (w : World) (hr1 : Kd.C (Kd.int .u16) w A1 l1.length l1) (hc1 : l1.length ≤ c1) (hr2 : Kd.C k83 w A2 l2.length l2) (hc2 : l2.length ≤ c2) (h : insolvencylaw33_DocketFile.f k a0_0 a0_1 l1 l2 a3_0 a3_1 a3_2 a3_3 a4 a5 a6 a7 a8 = some r) :
  Calls Try.prog 9 #[.agg #[.int .u8 a0_0, .int .u8 a0_1], .slice A1 l1.length c1, .slice A2 l2.length c2, .agg #[.int .i64 a3_0, .int .i64 a3_1, .int .i64 a3_2, .int .i64 a3_3], .int .u8 a4, .int .u8 a5, .int .u8 a6, .int .i8 a7, .bool a8] w fun e w' => e = .returned (.bool r) ∧ Below w.heap.size w w' := by
 have hu22 := Try.underlying22
 have hu47 := Try.underlying47
 have hu30 := Try.underlying30
 have HR1 := Aside0.mk hr1
 have HC1 := Aside0.mk hc1
 clear hr1 hc1
 have HR2 := Aside0.mk hr2
 have HC2 := Aside0.mk hc2
 clear hr2 hc2
 have HB := Aside0.mk (Below.refl w.heap.size w)
 have H : ((insolvencylaw33_built.f k a0_0 a0_1 l1 l2).bind fun bt574 => (if a8 = true then (insolvencylaw33_DocketFile.j0 k a3_0 a3_1 a3_2 a3_3 bt574.1 bt574.2.1 bt574.2.2.1 bt574.2.2.2.1 bt574.2.2.2.2 (wrap64 (Int.tmod a4 8)) (wrap64 (1048576 - (wrap64 (Int.tmod a6 12)))) (wrap64 ((wrap64 (Int.tmod a5 5)) - ((Int.tdiv a5 250) % 256))) (wrap64 ((wrap64 (Int.tmod a6 6)) - 1))) else (insolvencylaw33_DocketFile.j0 k a3_0 a3_1 a3_2 a3_3 bt574.1 bt574.2.1 bt574.2.2.1 bt574.2.2.2.1 bt574.2.2.2.2 (wrap64 (Int.tmod a4 8)) (wrap64 (bt574.1 + (wrap64 (Int.tmod a7 40)))) (wrap64 ((wrap64 (Int.tmod a5 5)) - ((Int.tdiv a5 250) % 256))) (wrap64 ((wrap64 (Int.tmod a6 6)) - 1))))) = some r := h
 clear h
 replace H := Option.bind_eq_some_iff.mp H
 obtain ⟨⟨t574, t575, t576, t577, t580⟩, A100, H⟩ := H
 replace H : (if a8 = true then (insolvencylaw33_DocketFile.j0 k a3_0 a3_1 a3_2 a3_3 t574 t575 t576 t577 t580 (wrap64 (Int.tmod a4 8)) (wrap64 (1048576 - (wrap64 (Int.tmod a6 12)))) (wrap64 ((wrap64 (Int.tmod a5 5)) - ((Int.tdiv a5 250) % 256))) (wrap64 ((wrap64 (Int.tmod a6 6)) - 1))) else (insolvencylaw33_DocketFile.j0 k a3_0 a3_1 a3_2 a3_3 t574 t575 t576 t577 t580 (wrap64 (Int.tmod a4 8)) (wrap64 (t574 + (wrap64 (Int.tmod a7 40)))) (wrap64 ((wrap64 (Int.tmod a5 5)) - ((Int.tdiv a5 250) % 256))) (wrap64 ((wrap64 (Int.tmod a6 6)) - 1)))) = some r := H
 have A10 := Aside0.mk A100
 clear A100
 have HC11 := Aside0.mk H
 clear H
 go_enter Try.func9, Try.ntmps9
 go_upto_if 58 with (first | ((with_reducible refine gate_dst (N := 9) rfl ?_); refine boxE (N := 9) #[.int .u8 a0_0, .int .u8 a0_1] 22 ?_; intro gb572 hg w12 hbox hb; have BK572 := Aside0.mk (hbox); have GW572 := gS HB hg; have GE572 := gS HB hg; replace HB := Aside0.mk (below_step (pB HB) hb); clear hb hbox hg) | ((with_reducible refine gate_dst (N := 12) rfl ?_); refine boxE (N := 12) #[.int .i64 a3_0, .int .i64 a3_1, .int .i64 a3_2, .int .i64 a3_3] 47 ?_; intro gb573 hg w13 hbox hb; have BK573 := Aside0.mk (hbox); have GW573 := gS HB hg; have GE573 := gS HB hg; have NB572_573 := nL BK572 hg; have NB573_572 := nG BK572 hg; replace BK572 := bB BK572 hb; replace HB := Aside0.mk (below_step (pB HB) hb); clear hb hbox hg; have hnb14 := NB572_573.out; have hnc14 := NB573_572.out; obtain ⟨hcz15_0, hcz15_1⟩ := cells2 BK572; obtain ⟨hfz15_0, hfz15_1⟩ := frz2 BK572) | ((with_reducible refine gate_callee (f := 12) rfl ?_); refine goesL_ (some 36) rfl rfl Try.func12 (by kernel_rfl) rfl #[.agg #[.int .u8 a0_0, .int .u8 a0_1], .slice A1 l1.length c1, .slice A2 l2.length c2] rfl (by (try simp only [List.map_toArray, List.map_cons, List.map_nil]); first | done | rfl | (simp only [List.length_drop, List.length_take]; rfl)) ?_; (with_reducible refine (insolvencylaw33_built.calls k a0_0 a0_1 _ _ l1 _ _ l2 t574 t575 t576 t577 t580 _ ?side1 ?side2 ?side3 ?side4 A10.out).mono ?_); (case side1 => exact cB HR1 HB); (case side2 => exact HC1.out); (case side3 => exact cB HR2 HB); (case side4 => exact HC2.out); rintro e w16 ⟨v578, v581, rfl, ho0, ho1, hb⟩; refine ⟨_, rfl, ?_⟩; have HO579 := Aside0.mk (Kd.R_lower ho0 (below_size (pB HB))); have HO582 := Aside0.mk (Kd.R_lower ho1 (below_size (pB HB))); replace BK572 := bB BK572 hb; replace BK573 := bB BK573 hb; replace HB := Aside0.mk (below_step (pB HB) hb); (try clear hb); (try clear ho0); (try clear ho1)) | ((with_reducible refine gate_dst (N := 19) rfl ?_); refine boxE (N := 19) #[.int .i64 0, .int .i64 0, .int .i64 0, .slice none 0 0, .slice none 0 0] 30 ?_; intro gb583 hg w17 hbox hb; have BK583 := Aside0.mk (hbox); have GW583 := gS HB hg; have GE583 := gS HB hg; have NB572_583 := nL BK572 hg; have NB583_572 := nG BK572 hg; have NB573_583 := nL BK573 hg; have NB583_573 := nG BK573 hg; replace HO579 := rB HO579 hb; replace HO582 := rB HO582 hb; replace BK572 := bB BK572 hb; replace BK573 := bB BK573 hb; replace HB := Aside0.mk (below_step (pB HB) hb); clear hb hbox hg; have hnb18 := NB583_572.out; have hnc18 := NB572_583.out; have hnb19 := NB583_573.out; have hnc19 := NB573_583.out; obtain ⟨hcz20_0, hcz20_1, hcz20_2, hcz20_3, hcz20_4⟩ := cells5 BK583; obtain ⟨hfz20_0, hfz20_1, hfz20_2, hfz20_3, hfz20_4⟩ := frz5 BK583; obtain ⟨Ao21, co21, eo21⟩ := Kd.R_slice HO579.out; subst eo21; obtain ⟨Ao22, co22, eo22⟩ := Kd.R_slice HO582.out; subst eo22) | ((with_reducible refine gate_dst (N := 20) rfl ?_); refine boxE (N := 20) #[.int .i64 0, .int .i64 0, .int .i64 0, .int .i64 0] 47 ?_; intro gb584 hg w23 hbox hb; have BK584 := Aside0.mk (hbox); have GW584 := gS HB hg; have GE584 := gS HB hg; have NB572_584 := Aside0.mk ((by rw [hg]; exact Nat.ne_of_lt (blk_lt (g := gb572) (o := .cells #[.int .u8 a0_0, .int .u8 a0_1] 22 (0, 0)) (by (with_reducible repeat (first | refine blk_drewN ?_ _ | refine blk_drew ?_ | refine blk_alloc ?_ _)); refine blk_far ?_ NB572_583.out _; (with_reducible repeat (first | refine blk_drewN ?_ _ | refine blk_drew ?_ | refine blk_alloc ?_ _)); refine blk_far ?_ NB572_583.out _; (with_reducible repeat (first | refine blk_drewN ?_ _ | refine blk_drew ?_ | refine blk_alloc ?_ _)); refine blk_far ?_ NB572_583.out _; (with_reducible repeat (first | refine blk_drewN ?_ _ | refine blk_drew ?_ | refine blk_alloc ?_ _)); refine blk_far ?_ NB572_583.out _; (with_reducible repeat (first | refine blk_drewN ?_ _ | refine blk_drew ?_ | refine blk_alloc ?_ _)); refine blk_far ?_ NB572_583.out _; (with_reducible repeat (first | refine blk_drewN ?_ _ | refine blk_drew ?_ | refine blk_alloc ?_ _)); exact BK572.out)) : gb572 ≠ gb584)); have NB584_572 := Aside0.mk ((by rw [hg]; exact Nat.ne_of_gt (blk_lt (g := gb572) (o := .cells #[.int .u8 a0_0, .int .u8 a0_1] 22 (0, 0)) (by (with_reducible repeat (first | refine blk_drewN ?_ _ | refine blk_drew ?_ | refine blk_alloc ?_ _)); refine blk_far ?_ NB572_583.out _; (with_reducible repeat (first | refine blk_drewN ?_ _ | refine blk_drew ?_ | refine blk_alloc ?_ _)); refine blk_far ?_ NB572_583.out _; (with_reducible repeat (first | refine blk_drewN ?_ _ | refine blk_drew ?_ | refine blk_alloc ?_ _)); refine blk_far ?_ NB572_583.out _; (with_reducible repeat (first | refine blk_drewN ?_ _ | refine blk_drew ?_ | refine blk_alloc ?_ _)); refine blk_far ?_ NB572_583.out _; (with_reducible repeat (first | refine blk_drewN ?_ _ | refine blk_drew ?_ | refine blk_alloc ?_ _)); refine blk_far ?_ NB572_583.out _; (with_reducible repeat (first | refine blk_drewN ?_ _ | refine blk_drew ?_ | refine blk_alloc ?_ _)); exact BK572.out)) : gb584 ≠ gb572)); have NB573_584 := Aside0.mk ((by rw [hg]; exact Nat.ne_of_lt (blk_lt (g := gb573) (o := .cells #[.int .i64 a3_0, .int .i64 a3_1, .int .i64 a3_2, .int .i64 a3_3] 47 (0, 0)) (by (with_reducible repeat (first | refine blk_drewN ?_ _ | refine blk_drew ?_ | refine blk_alloc ?_ _)); refine blk_far ?_ NB573_583.out _; (with_reducible repeat (first | refine blk_drewN ?_ _ | refine blk_drew ?_ | refine blk_alloc ?_ _)); refine blk_far ?_ NB573_583.out _; (with_reducible repeat (first | refine blk_drewN ?_ _ | refine blk_drew ?_ | refine blk_alloc ?_ _)); refine blk_far ?_ NB573_583.out _; (with_reducible repeat (first | refine blk_drewN ?_ _ | refine blk_drew ?_ | refine blk_alloc ?_ _)); refine blk_far ?_ NB573_583.out _; (with_reducible repeat (first | refine blk_drewN ?_ _ | refine blk_drew ?_ | refine blk_alloc ?_ _)); refine blk_far ?_ NB573_583.out _; (with_reducible repeat (first | refine blk_drewN ?_ _ | refine blk_drew ?_ | refine blk_alloc ?_ _)); exact BK573.out)) : gb573 ≠ gb584)); have NB584_573 := Aside0.mk ((by rw [hg]; exact Nat.ne_of_gt (blk_lt (g := gb573) (o := .cells #[.int .i64 a3_0, .int .i64 a3_1, .int .i64 a3_2, .int .i64 a3_3] 47 (0, 0)) (by (with_reducible repeat (first | refine blk_drewN ?_ _ | refine blk_drew ?_ | refine blk_alloc ?_ _)); refine blk_far ?_ NB573_583.out _; (with_reducible repeat (first | refine blk_drewN ?_ _ | refine blk_drew ?_ | refine blk_alloc ?_ _)); refine blk_far ?_ NB573_583.out _; (with_reducible repeat (first | refine blk_drewN ?_ _ | refine blk_drew ?_ | refine blk_alloc ?_ _)); refine blk_far ?_ NB573_583.out _; (with_reducible repeat (first | refine blk_drewN ?_ _ | refine blk_drew ?_ | refine blk_alloc ?_ _)); refine blk_far ?_ NB573_583.out _; (with_reducible repeat (first | refine blk_drewN ?_ _ | refine blk_drew ?_ | refine blk_alloc ?_ _)); refine blk_far ?_ NB573_583.out _; (with_reducible repeat (first | refine blk_drewN ?_ _ | refine blk_drew ?_ | refine blk_alloc ?_ _)); exact BK573.out)) : gb584 ≠ gb573)); have NB583_584 := Aside0.mk ((by rw [hg]; exact Nat.ne_of_lt (blk_lt (g := gb583) (o := .cells #[.int .i64 t574, .int .i64 t575, .int .i64 t576, .slice Ao21 t577.length co21, .slice Ao22 t580.length co22] 30 (0, 0)) (by (with_reducible repeat (first | refine blk_drewN ?_ _ | refine blk_drew ?_ | refine blk_alloc ?_ _)); refine blk_put (cs := #[.int .i64 t574, .int .i64 t575, .int .i64 t576, .slice Ao21 t577.length co21, .slice none 0 0]) ?_ 4 _ rfl; (with_reducible repeat (first | refine blk_drewN ?_ _ | refine blk_drew ?_ | refine blk_alloc ?_ _)); refine blk_put (cs := #[.int .i64 t574, .int .i64 t575, .int .i64 t576, .slice none 0 0, .slice none 0 0]) ?_ 3 _ rfl; (with_reducible repeat (first | refine blk_drewN ?_ _ | refine blk_drew ?_ | refine blk_alloc ?_ _)); refine blk_put (cs := #[.int .i64 t574, .int .i64 t575, .int .i64 0, .slice none 0 0, .slice none 0 0]) ?_ 2 _ rfl; (with_reducible repeat (first | refine blk_drewN ?_ _ | refine blk_drew ?_ | refine blk_alloc ?_ _)); refine blk_put (cs := #[.int .i64 t574, .int .i64 0, .int .i64 0, .slice none 0 0, .slice none 0 0]) ?_ 1 _ rfl; (with_reducible repeat (first | refine blk_drewN ?_ _ | refine blk_drew ?_ | refine blk_alloc ?_ _)); refine blk_put (cs := #[.int .i64 0, .int .i64 0, .int .i64 0, .slice none 0 0, .slice none 0 0]) ?_ 0 _ rfl; (with_reducible repeat (first | refine blk_drewN ?_ _ | refine blk_drew ?_ | refine blk_alloc ?_ _)); exact BK583.out)) : gb583 ≠ gb584)); have NB584_583 := Aside0.mk ((by rw [hg]; exact Nat.ne_of_gt (blk_lt (g := gb583) (o := .cells #[.int .i64 t574, .int .i64 t575, .int .i64 t576, .slice Ao21 t577.length co21, .slice Ao22 t580.length co22] 30 (0, 0)) (by (with_reducible repeat (first | refine blk_drewN ?_ _ | refine blk_drew ?_ | refine blk_alloc ?_ _)); refine blk_put (cs := #[.int .i64 t574, .int .i64 t575, .int .i64 t576, .slice Ao21 t577.length co21, .slice none 0 0]) ?_ 4 _ rfl; (with_reducible repeat (first | refine blk_drewN ?_ _ | refine blk_drew ?_ | refine blk_alloc ?_ _)); refine blk_put (cs := #[.int .i64 t574, .int .i64 t575, .int .i64 t576, .slice none 0 0, .slice none 0 0]) ?_ 3 _ rfl; (with_reducible repeat (first | refine blk_drewN ?_ _ | refine blk_drew ?_ | refine blk_alloc ?_ _)); refine blk_put (cs := #[.int .i64 t574, .int .i64 t575, .int .i64 0, .slice none 0 0, .slice none 0 0]) ?_ 2 _ rfl; (with_reducible repeat (first | refine blk_drewN ?_ _ | refine blk_drew ?_ | refine blk_alloc ?_ _)); refine blk_put (cs := #[.int .i64 t574, .int .i64 0, .int .i64 0, .slice none 0 0, .slice none 0 0]) ?_ 1 _ rfl; (with_reducible repeat (first | refine blk_drewN ?_ _ | refine blk_drew ?_ | refine blk_alloc ?_ _)); refine blk_put (cs := #[.int .i64 0, .int .i64 0, .int .i64 0, .slice none 0 0, .slice none 0 0]) ?_ 0 _ rfl; (with_reducible repeat (first | refine blk_drewN ?_ _ | refine blk_drew ?_ | refine blk_alloc ?_ _)); exact BK583.out)) : gb584 ≠ gb583)); replace HO579 := Aside0.mk (Kd.R_below (by (with_reducible repeat (first | apply Kd.R_alloc | apply Kd.R_drewN | apply Kd.R_drew)); exact (Kd.R_mono (Kd.R_far (p := ⟨gb583, 4, none⟩) (Kd.R_far (p := ⟨gb583, 3, none⟩) (Kd.R_far (p := ⟨gb583, 2, none⟩) (Kd.R_far (p := ⟨gb583, 1, none⟩) (Kd.R_far (p := ⟨gb583, 0, none⟩) (Kd.R_types HO579.out BK583.out (by decide)) (fun _ hk => hk.2) (.int .i64 t574)) (fun _ hk => hk.2) (.int .i64 t575)) (fun _ hk => hk.2) (.int .i64 t576)) (fun _ hk => hk.2) (.slice Ao21 t577.length co21)) (fun _ hk => hk.2) (.slice Ao22 t580.length co22)) (fun _ h_ => h_.1))) hb); replace HO582 := Aside0.mk (Kd.R_below (by (with_reducible repeat (first | apply Kd.R_alloc | apply Kd.R_drewN | apply Kd.R_drew)); exact (Kd.R_mono (Kd.R_far (p := ⟨gb583, 4, none⟩) (Kd.R_far (p := ⟨gb583, 3, none⟩) (Kd.R_far (p := ⟨gb583, 2, none⟩) (Kd.R_far (p := ⟨gb583, 1, none⟩) (Kd.R_far (p := ⟨gb583, 0, none⟩) (Kd.R_types HO582.out BK583.out (by decide)) (fun _ hk => hk.2) (.int .i64 t574)) (fun _ hk => hk.2) (.int .i64 t575)) (fun _ hk => hk.2) (.int .i64 t576)) (fun _ hk => hk.2) (.slice Ao21 t577.length co21)) (fun _ hk => hk.2) (.slice Ao22 t580.length co22)) (fun _ h_ => h_.1))) hb); replace BK572 := Aside0.mk (blk_below (g := gb572) (o := .cells #[.int .u8 a0_0, .int .u8 a0_1] 22 (0, 0)) (by (with_reducible repeat (first | refine blk_drewN ?_ _ | refine blk_drew ?_ | refine blk_alloc ?_ _)); refine blk_far ?_ NB572_583.out _; (with_reducible repeat (first | refine blk_drewN ?_ _ | refine blk_drew ?_ | refine blk_alloc ?_ _)); refine blk_far ?_ NB572_583.out _; (with_reducible repeat (first | refine blk_drewN ?_ _ | refine blk_drew ?_ | refine blk_alloc ?_ _)); refine blk_far ?_ NB572_583.out _; (with_reducible repeat (first | refine blk_drewN ?_ _ | refine blk_drew ?_ | refine blk_alloc ?_ _)); refine blk_far ?_ NB572_583.out _; (with_reducible repeat (first | refine blk_drewN ?_ _ | refine blk_drew ?_ | refine blk_alloc ?_ _)); refine blk_far ?_ NB572_583.out _; (with_reducible repeat (first | refine blk_drewN ?_ _ | refine blk_drew ?_ | refine blk_alloc ?_ _)); exact BK572.out) hb); replace BK573 := Aside0.mk (blk_below (g := gb573) (o := .cells #[.int .i64 a3_0, .int .i64 a3_1, .int .i64 a3_2, .int .i64 a3_3] 47 (0, 0)) (by (with_reducible repeat (first | refine blk_drewN ?_ _ | refine blk_drew ?_ | refine blk_alloc ?_ _)); refine blk_far ?_ NB573_583.out _; (with_reducible repeat (first | refine blk_drewN ?_ _ | refine blk_drew ?_ | refine blk_alloc ?_ _)); refine blk_far ?_ NB573_583.out _; (with_reducible repeat (first | refine blk_drewN ?_ _ | refine blk_drew ?_ | refine blk_alloc ?_ _)); refine blk_far ?_ NB573_583.out _; (with_reducible repeat (first | refine blk_drewN ?_ _ | refine blk_drew ?_ | refine blk_alloc ?_ _)); refine blk_far ?_ NB573_583.out _; (with_reducible repeat (first | refine blk_drewN ?_ _ | refine blk_drew ?_ | refine blk_alloc ?_ _)); refine blk_far ?_ NB573_583.out _; (with_reducible repeat (first | refine blk_drewN ?_ _ | refine blk_drew ?_ | refine blk_alloc ?_ _)); exact BK573.out) hb); replace BK583 := Aside0.mk (blk_below (g := gb583) (o := .cells #[.int .i64 t574, .int .i64 t575, .int .i64 t576, .slice Ao21 t577.length co21, .slice Ao22 t580.length co22] 30 (0, 0)) (by (with_reducible repeat (first | refine blk_drewN ?_ _ | refine blk_drew ?_ | refine blk_alloc ?_ _)); refine blk_put (cs := #[.int .i64 t574, .int .i64 t575, .int .i64 t576, .slice Ao21 t577.length co21, .slice none 0 0]) ?_ 4 _ rfl; (with_reducible repeat (first | refine blk_drewN ?_ _ | refine blk_drew ?_ | refine blk_alloc ?_ _)); refine blk_put (cs := #[.int .i64 t574, .int .i64 t575, .int .i64 t576, .slice none 0 0, .slice none 0 0]) ?_ 3 _ rfl; (with_reducible repeat (first | refine blk_drewN ?_ _ | refine blk_drew ?_ | refine blk_alloc ?_ _)); refine blk_put (cs := #[.int .i64 t574, .int .i64 t575, .int .i64 0, .slice none 0 0, .slice none 0 0]) ?_ 2 _ rfl; (with_reducible repeat (first | refine blk_drewN ?_ _ | refine blk_drew ?_ | refine blk_alloc ?_ _)); refine blk_put (cs := #[.int .i64 t574, .int .i64 0, .int .i64 0, .slice none 0 0, .slice none 0 0]) ?_ 1 _ rfl; (with_reducible repeat (first | refine blk_drewN ?_ _ | refine blk_drew ?_ | refine blk_alloc ?_ _)); refine blk_put (cs := #[.int .i64 0, .int .i64 0, .int .i64 0, .slice none 0 0, .slice none 0 0]) ?_ 0 _ rfl; (with_reducible repeat (first | refine blk_drewN ?_ _ | refine blk_drew ?_ | refine blk_alloc ?_ _)); exact BK583.out) hb); replace HB := Aside0.mk (below_step (pB HB) hb); clear hb hbox hg; have hnb24 := NB584_572.out; have hnc24 := NB572_584.out; have hnb25 := NB584_573.out; have hnc25 := NB573_584.out; have hnb26 := NB584_583.out; have hnc26 := NB583_584.out; obtain ⟨hcz27_0, hcz27_1, hcz27_2, hcz27_3⟩ := cells4 BK584; obtain ⟨hfz27_0, hfz27_1, hfz27_2, hfz27_3⟩ := frz4 BK584))
 (try simp only [Act.put, sT, sZ, sU])
 go_cut [] (fun wc => ∃ (kq : Nat) (x585001_10 : Int), Aside0 (insolvencylaw33_DocketFile.j0 kq a3_0 a3_1 a3_2 a3_3 t574 t575 t576 t577 t580 (wrap64 (Int.tmod a4 8)) x585001_10 (wrap64 ((wrap64 (Int.tmod a5 5)) - ((Int.tdiv a5 250) % 256))) (wrap64 ((wrap64 (Int.tmod a6 6)) - 1)) = some r) ∧ Aside0 (kq ≤ k) ∧ Aside0 (Kd.R (Kd.int .i64) 3 wc w.heap.size (fun _ => True) (.slice Ao21 t577.length co21) t577) ∧ Aside0 (Kd.R k50 50 wc w.heap.size (fun _ => True) (.slice Ao22 t580.length co22) t580) ∧ Aside0 (wc.heap[gb572]? = some (.cells #[.int .u8 a0_0, .int .u8 a0_1] 22 (0, 0))) ∧ Aside0 (wc.heap[gb573]? = some (.cells #[.int .i64 a3_0, .int .i64 a3_1, .int .i64 a3_2, .int .i64 a3_3] 47 (0, 0))) ∧ Aside0 (wc.heap[gb583]? = some (.cells #[.int .i64 t574, .int .i64 t575, .int .i64 t576, (.slice Ao21 t577.length co21), (.slice Ao22 t580.length co22)] 30 (0, 0))) ∧ Aside0 (wc.heap[gb584]? = some (.cells #[.int .i64 (wrap64 (Int.tmod a4 8)), .int .i64 x585001_10, .int .i64 (wrap64 ((wrap64 (Int.tmod a5 5)) - ((Int.tdiv a5 250) % 256))), .int .i64 (wrap64 ((wrap64 (Int.tmod a6 6)) - 1))] 47 (0, 0))) ∧ Aside0 (Below w.heap.size w wc))
 case first =>
  have H := HC11.out
  clear HC11
  by_cases c28 : a8 = true
  ·subst c28
   have H1 : (insolvencylaw33_DocketFile.j0 k a3_0 a3_1 a3_2 a3_3 t574 t575 t576 t577 t580 (wrap64 (Int.tmod a4 8)) (wrap64 (1048576 - (wrap64 (Int.tmod a6 12)))) (wrap64 ((wrap64 (Int.tmod a5 5)) - ((Int.tdiv a5 250) % 256))) (wrap64 ((wrap64 (Int.tmod a6 6)) - 1))) = some r := by rw [if_pos rfl] at H; exact H
   clear H
   have H := H1
   clear H1
   have H' := Aside0.mk H
   clear H
   have hnb29 := NB584_572.out
   have hnc29 := NB572_584.out
   have hnb30 := NB584_573.out
   have hnc30 := NB573_584.out
   have hnb31 := NB584_583.out
   have hnc31 := NB583_584.out
   obtain ⟨hcz32_0, hcz32_1, hcz32_2, hcz32_3⟩ := cells4 BK584
   obtain ⟨hfz32_0, hfz32_1, hfz32_2, hfz32_3⟩ := frz4 BK584
   go_wp2
   go_meet
   case rel => exact ⟨_, (wrap64 (1048576 - (wrap64 (Int.tmod a6 12)))), H', ⟨by first | omega | exact Nat.le_refl _⟩, ⟨by (with_reducible repeat (first | apply Kd.R_alloc | apply Kd.R_drewN | apply Kd.R_drew)); exact Kd.R_mono (Kd.R_far (p := ⟨gb584, 1, none⟩) (Kd.R_far (p := ⟨gb584, 3, none⟩) (Kd.R_far (p := ⟨gb584, 2, none⟩) (Kd.R_far (p := ⟨gb584, 1, none⟩) (Kd.R_far (p := ⟨gb584, 0, none⟩) (Kd.R_types HO579.out BK584.out (by decide)) (fun _ hk => hk.2) (.int .i64 (wrap64 (Int.tmod a4 8)))) (fun _ hk => hk.2) (.int .i64 (wrap64 (t574 + (wrap64 (Int.tmod a7 40)))))) (fun _ hk => hk.2) (.int .i64 (wrap64 ((wrap64 (Int.tmod a5 5)) - ((Int.tdiv a5 250) % 256))))) (fun _ hk => hk.2) (.int .i64 (wrap64 ((wrap64 (Int.tmod a6 6)) - 1)))) (fun _ hk => hk.2) (.int .i64 (wrap64 (1048576 - (wrap64 (Int.tmod a6 12)))))) (fun _ hk => trivial)⟩, ⟨by (with_reducible repeat (first | apply Kd.R_alloc | apply Kd.R_drewN | apply Kd.R_drew)); exact Kd.R_mono (Kd.R_far (p := ⟨gb584, 1, none⟩) (Kd.R_far (p := ⟨gb584, 3, none⟩) (Kd.R_far (p := ⟨gb584, 2, none⟩) (Kd.R_far (p := ⟨gb584, 1, none⟩) (Kd.R_far (p := ⟨gb584, 0, none⟩) (Kd.R_types HO582.out BK584.out (by decide)) (fun _ hk => hk.2) (.int .i64 (wrap64 (Int.tmod a4 8)))) (fun _ hk => hk.2) (.int .i64 (wrap64 (t574 + (wrap64 (Int.tmod a7 40)))))) (fun _ hk => hk.2) (.int .i64 (wrap64 ((wrap64 (Int.tmod a5 5)) - ((Int.tdiv a5 250) % 256))))) (fun _ hk => hk.2) (.int .i64 (wrap64 ((wrap64 (Int.tmod a6 6)) - 1)))) (fun _ hk => hk.2) (.int .i64 (wrap64 (1048576 - (wrap64 (Int.tmod a6 12)))))) (fun _ hk => trivial)⟩, ⟨by (with_reducible repeat (first | refine blk_drewN ?_ _ | refine blk_drew ?_ | refine blk_alloc ?_ _)); refine blk_far ?_ NB572_584.out _; (with_reducible repeat (first | refine blk_drewN ?_ _ | refine blk_drew ?_ | refine blk_alloc ?_ _)); refine blk_far ?_ NB572_584.out _; (with_reducible repeat (first | refine blk_drewN ?_ _ | refine blk_drew ?_ | refine blk_alloc ?_ _)); refine blk_far ?_ NB572_584.out _; (with_reducible repeat (first | refine blk_drewN ?_ _ | refine blk_drew ?_ | refine blk_alloc ?_ _)); refine blk_far ?_ NB572_584.out _; (with_reducible repeat (first | refine blk_drewN ?_ _ | refine blk_drew ?_ | refine blk_alloc ?_ _)); refine blk_far ?_ NB572_584.out _; (with_reducible repeat (first | refine blk_drewN ?_ _ | refine blk_drew ?_ | refine blk_alloc ?_ _)); exact BK572.out⟩, ⟨by (with_reducible repeat (first | refine blk_drewN ?_ _ | refine blk_drew ?_ | refine blk_alloc ?_ _)); refine blk_far ?_ NB573_584.out _; (with_reducible repeat (first | refine blk_drewN ?_ _ | refine blk_drew ?_ | refine blk_alloc ?_ _)); refine blk_far ?_ NB573_584.out _; (with_reducible repeat (first | refine blk_drewN ?_ _ | refine blk_drew ?_ | refine blk_alloc ?_ _)); refine blk_far ?_ NB573_584.out _; (with_reducible repeat (first | refine blk_drewN ?_ _ | refine blk_drew ?_ | refine blk_alloc ?_ _)); refine blk_far ?_ NB573_584.out _; (with_reducible repeat (first | refine blk_drewN ?_ _ | refine blk_drew ?_ | refine blk_alloc ?_ _)); refine blk_far ?_ NB573_584.out _; (with_reducible repeat (first | refine blk_drewN ?_ _ | refine blk_drew ?_ | refine blk_alloc ?_ _)); exact BK573.out⟩, ⟨by (with_reducible repeat (first | refine blk_drewN ?_ _ | refine blk_drew ?_ | refine blk_alloc ?_ _)); refine blk_far ?_ NB583_584.out _; (with_reducible repeat (first | refine blk_drewN ?_ _ | refine blk_drew ?_ | refine blk_alloc ?_ _)); refine blk_far ?_ NB583_584.out _; (with_reducible repeat (first | refine blk_drewN ?_ _ | refine blk_drew ?_ | refine blk_alloc ?_ _)); refine blk_far ?_ NB583_584.out _; (with_reducible repeat (first | refine blk_drewN ?_ _ | refine blk_drew ?_ | refine blk_alloc ?_ _)); refine blk_far ?_ NB583_584.out _; (with_reducible repeat (first | refine blk_drewN ?_ _ | refine blk_drew ?_ | refine blk_alloc ?_ _)); refine blk_far ?_ NB583_584.out _; (with_reducible repeat (first | refine blk_drewN ?_ _ | refine blk_drew ?_ | refine blk_alloc ?_ _)); exact BK583.out⟩, ⟨by (with_reducible repeat (first | refine blk_drewN ?_ _ | refine blk_drew ?_ | refine blk_alloc ?_ _)); refine blk_put (cs := #[.int .i64 (wrap64 (Int.tmod a4 8)), .int .i64 (wrap64 (t574 + (wrap64 (Int.tmod a7 40)))), .int .i64 (wrap64 ((wrap64 (Int.tmod a5 5)) - ((Int.tdiv a5 250) % 256))), .int .i64 (wrap64 ((wrap64 (Int.tmod a6 6)) - 1))]) ?_ 1 _ rfl; (with_reducible repeat (first | refine blk_drewN ?_ _ | refine blk_drew ?_ | refine blk_alloc ?_ _)); refine blk_put (cs := #[.int .i64 (wrap64 (Int.tmod a4 8)), .int .i64 (wrap64 (t574 + (wrap64 (Int.tmod a7 40)))), .int .i64 (wrap64 ((wrap64 (Int.tmod a5 5)) - ((Int.tdiv a5 250) % 256))), .int .i64 0]) ?_ 3 _ rfl; (with_reducible repeat (first | refine blk_drewN ?_ _ | refine blk_drew ?_ | refine blk_alloc ?_ _)); refine blk_put (cs := #[.int .i64 (wrap64 (Int.tmod a4 8)), .int .i64 (wrap64 (t574 + (wrap64 (Int.tmod a7 40)))), .int .i64 0, .int .i64 0]) ?_ 2 _ rfl; (with_reducible repeat (first | refine blk_drewN ?_ _ | refine blk_drew ?_ | refine blk_alloc ?_ _)); refine blk_put (cs := #[.int .i64 (wrap64 (Int.tmod a4 8)), .int .i64 0, .int .i64 0, .int .i64 0]) ?_ 1 _ rfl; (with_reducible repeat (first | refine blk_drewN ?_ _ | refine blk_drew ?_ | refine blk_alloc ?_ _)); refine blk_put (cs := #[.int .i64 0, .int .i64 0, .int .i64 0, .int .i64 0]) ?_ 0 _ rfl; (with_reducible repeat (first | refine blk_drewN ?_ _ | refine blk_drew ?_ | refine blk_alloc ?_ _)); exact BK584.out⟩, ⟨pB HB⟩⟩
  ·replace c28 := Bool.eq_false_iff.mpr c28
   subst c28
   have H1 : (insolvencylaw33_DocketFile.j0 k a3_0 a3_1 a3_2 a3_3 t574 t575 t576 t577 t580 (wrap64 (Int.tmod a4 8)) (wrap64 (t574 + (wrap64 (Int.tmod a7 40)))) (wrap64 ((wrap64 (Int.tmod a5 5)) - ((Int.tdiv a5 250) % 256))) (wrap64 ((wrap64 (Int.tmod a6 6)) - 1))) = some r := by rw [if_neg (show ¬ (false = true) by decide)] at H; exact H
   clear H
   have H := H1
   clear H1
   have H' := Aside0.mk H
   clear H
   go_wp2
   go_meet
   case rel => exact ⟨_, (wrap64 (t574 + (wrap64 (Int.tmod a7 40)))), H', ⟨by first | omega | exact Nat.le_refl _⟩, ⟨by (with_reducible repeat (first | apply Kd.R_alloc | apply Kd.R_drewN | apply Kd.R_drew)); exact Kd.R_mono (Kd.R_far (p := ⟨gb584, 3, none⟩) (Kd.R_far (p := ⟨gb584, 2, none⟩) (Kd.R_far (p := ⟨gb584, 1, none⟩) (Kd.R_far (p := ⟨gb584, 0, none⟩) (Kd.R_types HO579.out BK584.out (by decide)) (fun _ hk => hk.2) (.int .i64 (wrap64 (Int.tmod a4 8)))) (fun _ hk => hk.2) (.int .i64 (wrap64 (t574 + (wrap64 (Int.tmod a7 40)))))) (fun _ hk => hk.2) (.int .i64 (wrap64 ((wrap64 (Int.tmod a5 5)) - ((Int.tdiv a5 250) % 256))))) (fun _ hk => hk.2) (.int .i64 (wrap64 ((wrap64 (Int.tmod a6 6)) - 1)))) (fun _ hk => trivial)⟩, ⟨by (with_reducible repeat (first | apply Kd.R_alloc | apply Kd.R_drewN | apply Kd.R_drew)); exact Kd.R_mono (Kd.R_far (p := ⟨gb584, 3, none⟩) (Kd.R_far (p := ⟨gb584, 2, none⟩) (Kd.R_far (p := ⟨gb584, 1, none⟩) (Kd.R_far (p := ⟨gb584, 0, none⟩) (Kd.R_types HO582.out BK584.out (by decide)) (fun _ hk => hk.2) (.int .i64 (wrap64 (Int.tmod a4 8)))) (fun _ hk => hk.2) (.int .i64 (wrap64 (t574 + (wrap64 (Int.tmod a7 40)))))) (fun _ hk => hk.2) (.int .i64 (wrap64 ((wrap64 (Int.tmod a5 5)) - ((Int.tdiv a5 250) % 256))))) (fun _ hk => hk.2) (.int .i64 (wrap64 ((wrap64 (Int.tmod a6 6)) - 1)))) (fun _ hk => trivial)⟩, ⟨by (with_reducible repeat (first | refine blk_drewN ?_ _ | refine blk_drew ?_ | refine blk_alloc ?_ _)); refine blk_far ?_ NB572_584.out _; (with_reducible repeat (first | refine blk_drewN ?_ _ | refine blk_drew ?_ | refine blk_alloc ?_ _)); refine blk_far ?_ NB572_584.out _; (with_reducible repeat (first | refine blk_drewN ?_ _ | refine blk_drew ?_ | refine blk_alloc ?_ _)); refine blk_far ?_ NB572_584.out _; (with_reducible repeat (first | refine blk_drewN ?_ _ | refine blk_drew ?_ | refine blk_alloc ?_ _)); refine blk_far ?_ NB572_584.out _; (with_reducible repeat (first | refine blk_drewN ?_ _ | refine blk_drew ?_ | refine blk_alloc ?_ _)); exact BK572.out⟩, ⟨by (with_reducible repeat (first | refine blk_drewN ?_ _ | refine blk_drew ?_ | refine blk_alloc ?_ _)); refine blk_far ?_ NB573_584.out _; (with_reducible repeat (first | refine blk_drewN ?_ _ | refine blk_drew ?_ | refine blk_alloc ?_ _)); refine blk_far ?_ NB573_584.out _; (with_reducible repeat (first | refine blk_drewN ?_ _ | refine blk_drew ?_ | refine blk_alloc ?_ _)); refine blk_far ?_ NB573_584.out _; (with_reducible repeat (first | refine blk_drewN ?_ _ | refine blk_drew ?_ | refine blk_alloc ?_ _)); refine blk_far ?_ NB573_584.out _; (with_reducible repeat (first | refine blk_drewN ?_ _ | refine blk_drew ?_ | refine blk_alloc ?_ _)); exact BK573.out⟩, ⟨by (with_reducible repeat (first | refine blk_drewN ?_ _ | refine blk_drew ?_ | refine blk_alloc ?_ _)); refine blk_far ?_ NB583_584.out _; (with_reducible repeat (first | refine blk_drewN ?_ _ | refine blk_drew ?_ | refine blk_alloc ?_ _)); refine blk_far ?_ NB583_584.out _; (with_reducible repeat (first | refine blk_drewN ?_ _ | refine blk_drew ?_ | refine blk_alloc ?_ _)); refine blk_far ?_ NB583_584.out _; (with_reducible repeat (first | refine blk_drewN ?_ _ | refine blk_drew ?_ | refine blk_alloc ?_ _)); refine blk_far ?_ NB583_584.out _; (with_reducible repeat (first | refine blk_drewN ?_ _ | refine blk_drew ?_ | refine blk_alloc ?_ _)); exact BK583.out⟩, ⟨by (with_reducible repeat (first | refine blk_drewN ?_ _ | refine blk_drew ?_ | refine blk_alloc ?_ _)); refine blk_put (cs := #[.int .i64 (wrap64 (Int.tmod a4 8)), .int .i64 (wrap64 (t574 + (wrap64 (Int.tmod a7 40)))), .int .i64 (wrap64 ((wrap64 (Int.tmod a5 5)) - ((Int.tdiv a5 250) % 256))), .int .i64 0]) ?_ 3 _ rfl; (with_reducible repeat (first | refine blk_drewN ?_ _ | refine blk_drew ?_ | refine blk_alloc ?_ _)); refine blk_put (cs := #[.int .i64 (wrap64 (Int.tmod a4 8)), .int .i64 (wrap64 (t574 + (wrap64 (Int.tmod a7 40)))), .int .i64 0, .int .i64 0]) ?_ 2 _ rfl; (with_reducible repeat (first | refine blk_drewN ?_ _ | refine blk_drew ?_ | refine blk_alloc ?_ _)); refine blk_put (cs := #[.int .i64 (wrap64 (Int.tmod a4 8)), .int .i64 0, .int .i64 0, .int .i64 0]) ?_ 1 _ rfl; (with_reducible repeat (first | refine blk_drewN ?_ _ | refine blk_drew ?_ | refine blk_alloc ?_ _)); refine blk_put (cs := #[.int .i64 0, .int .i64 0, .int .i64 0, .int .i64 0]) ?_ 0 _ rfl; (with_reducible repeat (first | refine blk_drewN ?_ _ | refine blk_drew ?_ | refine blk_alloc ?_ _)); exact BK584.out⟩, ⟨pB HB⟩⟩
 case rest =>
  clear HC11
  try clear c1
  try clear c2
  try clear p2
  try clear c3
  try clear p6
  try clear c9
  try clear c12
  try clear c14
  try clear c18
  try clear c19
  try clear c24
  try clear c25
  try clear c26
  try clear c28
  try clear c29
  try clear c30
  try clear c31
  obtain ⟨kq, x585001_10, HA, HJ10, HO_584003, HO_584004, BK572, BK573, BK583, BK584, HB⟩ := hcut
  cases kq with
  | zero => exact absurd HA.out (by simp [insolvencylaw33_DocketFile.j0])
  | succ kj10 =>
   have H := HA.out
   clear HA
   simp only [insolvencylaw33_DocketFile.j0] at H
   replace H := Option.bind_eq_some_iff.mp H
   obtain ⟨⟨t585, t586, t587, t588, t591, t594, t597⟩, A330, H⟩ := H
   replace H : ((ref_File.f kj10 t574 t575 t576 t577 t580 (wrap64 (Int.tmod a4 8)) x585001_10 (wrap64 ((wrap64 (Int.tmod a5 5)) - ((Int.tdiv a5 250) % 256))) (wrap64 ((wrap64 (Int.tmod a6 6)) - 1))).bind fun bt599 => ((docket_File.f kj10 t574 t575 t576 t577 t580 a3_0 a3_1 a3_2 a3_3).bind fun bt613 => ((ref_File.f kj10 t574 t575 t576 t577 t580 a3_0 a3_1 a3_2 a3_3).bind fun bt627 => ((insolvencylaw33_awake.f kj10).bind fun t641 => (if t641 = true then (if t597 = bt599.2.2.2.2.2.2 then ((insolvencyref33_SameDocket.f kj10 t585 t586 t587 t588 t591 bt599.1 bt599.2.1 bt599.2.2.1 bt599.2.2.2.1 bt599.2.2.2.2.1).bind fun t642 => (if t642 = true then ((insolvencyref33_SameRulings.f kj10 t594 bt599.2.2.2.2.2.1).bind fun t643 => (if t643 = true then (some (bt613.2.2.2.2.2.2 == bt627.2.2.2.2.2.2)) else (none))) else (none))) else (none)) else (none)))))) = some r := H
   have A33 := Aside0.mk A330
   clear A330
   replace H := Option.bind_eq_some_iff.mp H
   obtain ⟨⟨t599, t600, t601, t602, t605, t608, t611⟩, A340, H⟩ := H
   replace H : ((docket_File.f kj10 t574 t575 t576 t577 t580 a3_0 a3_1 a3_2 a3_3).bind fun bt613 => ((ref_File.f kj10 t574 t575 t576 t577 t580 a3_0 a3_1 a3_2 a3_3).bind fun bt627 => ((insolvencylaw33_awake.f kj10).bind fun t641 => (if t641 = true then (if t597 = t611 then ((insolvencyref33_SameDocket.f kj10 t585 t586 t587 t588 t591 t599 t600 t601 t602 t605).bind fun t642 => (if t642 = true then ((insolvencyref33_SameRulings.f kj10 t594 t608).bind fun t643 => (if t643 = true then (some (bt613.2.2.2.2.2.2 == bt627.2.2.2.2.2.2)) else (none))) else (none))) else (none)) else (none))))) = some r := H
   have A34 := Aside0.mk A340
   clear A340
   replace H := Option.bind_eq_some_iff.mp H
   obtain ⟨⟨t613, t614, t615, t616, t619, t622, t625⟩, A350, H⟩ := H
   replace H : ((ref_File.f kj10 t574 t575 t576 t577 t580 a3_0 a3_1 a3_2 a3_3).bind fun bt627 => ((insolvencylaw33_awake.f kj10).bind fun t641 => (if t641 = true then (if t597 = t611 then ((insolvencyref33_SameDocket.f kj10 t585 t586 t587 t588 t591 t599 t600 t601 t602 t605).bind fun t642 => (if t642 = true then ((insolvencyref33_SameRulings.f kj10 t594 t608).bind fun t643 => (if t643 = true then (some (t625 == bt627.2.2.2.2.2.2)) else (none))) else (none))) else (none)) else (none)))) = some r := H
   have A35 := Aside0.mk A350
   clear A350
   replace H := Option.bind_eq_some_iff.mp H
   obtain ⟨⟨t627, t628, t629, t630, t633, t636, t639⟩, A360, H⟩ := H
   replace H : ((insolvencylaw33_awake.f kj10).bind fun t641 => (if t641 = true then (if t597 = t611 then ((insolvencyref33_SameDocket.f kj10 t585 t586 t587 t588 t591 t599 t600 t601 t602 t605).bind fun t642 => (if t642 = true then ((insolvencyref33_SameRulings.f kj10 t594 t608).bind fun t643 => (if t643 = true then (some (t625 == t639)) else (none))) else (none))) else (none)) else (none))) = some r := H
   have A36 := Aside0.mk A360
   clear A360
   replace H := Option.bind_eq_some_iff.mp H
   obtain ⟨t641, A370, H⟩ := H
   replace H : (if t641 = true then (if t597 = t611 then ((insolvencyref33_SameDocket.f kj10 t585 t586 t587 t588 t591 t599 t600 t601 t602 t605).bind fun t642 => (if t642 = true then ((insolvencyref33_SameRulings.f kj10 t594 t608).bind fun t643 => (if t643 = true then (some (t625 == t639)) else (none))) else (none))) else (none)) else (none)) = some r := H
   have A37 := Aside0.mk A370
   clear A370
   by_cases c38 : t641 = true
   ·subst c38
    have H1 : (if t597 = t611 then ((insolvencyref33_SameDocket.f kj10 t585 t586 t587 t588 t591 t599 t600 t601 t602 t605).bind fun t642 => (if t642 = true then ((insolvencyref33_SameRulings.f kj10 t594 t608).bind fun t643 => (if t643 = true then (some (t625 == t639)) else (none))) else (none))) else (none)) = some r := by rw [if_pos rfl] at H; exact H
    clear H
    have H := H1
    clear H1
    by_cases c39 : t597 = t611
    ·rw [if_pos c39] at H
     have c39b0 : (t597 == t611) = true := beq_iff_eq.mpr c39
     have c39b1 : (t597 != t611) = false := bne_eq_false_iff_eq.mpr c39
     clear c39
     replace H := Option.bind_eq_some_iff.mp H
     obtain ⟨t642, A400, H⟩ := H
     replace H : (if t642 = true then ((insolvencyref33_SameRulings.f kj10 t594 t608).bind fun t643 => (if t643 = true then (some (t625 == t639)) else (none))) else (none)) = some r := H
     have A40 := Aside0.mk A400
     clear A400
     by_cases c41 : t642 = true
     ·subst c41
      have H1 : ((insolvencyref33_SameRulings.f kj10 t594 t608).bind fun t643 => (if t643 = true then (some (t625 == t639)) else (none))) = some r := by rw [if_pos rfl] at H; exact H
      clear H
      have H := H1
      clear H1
      replace H := Option.bind_eq_some_iff.mp H
      obtain ⟨t643, A420, H⟩ := H
      replace H : (if t643 = true then (some (t625 == t639)) else (none)) = some r := H
      have A42 := Aside0.mk A420
      clear A420
      by_cases c43 : t643 = true
      ·subst c43
       have H1 : (some (t625 == t639)) = some r := by rw [if_pos rfl] at H; exact H
       clear H
       have H := H1
       clear H1
       obtain rfl := Option.some.inj H
       have hnb44 := NB583_572.out
       have hnc44 := NB572_583.out
       have hnb45 := NB583_573.out
       have hnc45 := NB573_583.out
       have hnb46 := NB583_584.out
       have hnc46 := NB584_583.out
       obtain ⟨hcz47_0, hcz47_1, hcz47_2, hcz47_3, hcz47_4⟩ := cells5 BK583
       obtain ⟨hfz47_0, hfz47_1, hfz47_2, hfz47_3, hfz47_4⟩ := frz5 BK583
       have hnb48 := NB584_572.out
       have hnc48 := NB572_584.out
       have hnb49 := NB584_573.out
       have hnc49 := NB573_584.out
       obtain ⟨hcz50_0, hcz50_1, hcz50_2, hcz50_3⟩ := cells4 BK584
       obtain ⟨hfz50_0, hfz50_1, hfz50_2, hfz50_3⟩ := frz4 BK584
       go_wp2_with (first | ((with_reducible refine gate_callee (f := 20) rfl ?_); refine goesL_ (some 67) rfl rfl Try.func20 (by kernel_rfl) rfl #[.agg #[.int .i64 t574, .int .i64 t575, .int .i64 t576, .slice Ao21 t577.length co21, .slice Ao22 t580.length co22], .agg #[.int .i64 (wrap64 (Int.tmod a4 8)), .int .i64 x585001_10, .int .i64 (wrap64 ((wrap64 (Int.tmod a5 5)) - ((Int.tdiv a5 250) % 256))), .int .i64 (wrap64 ((wrap64 (Int.tmod a6 6)) - 1))]] rfl (by (try simp only [List.map_toArray, List.map_cons, List.map_nil]); first | done | rfl | (simp only [List.length_drop, List.length_take]; rfl)) ?_; (with_reducible refine (docket_File.calls kj10 t574 t575 t576 _ _ t577 _ _ t580 (wrap64 (Int.tmod a4 8)) x585001_10 (wrap64 ((wrap64 (Int.tmod a5 5)) - ((Int.tdiv a5 250) % 256))) (wrap64 ((wrap64 (Int.tmod a6 6)) - 1)) t585 t586 t587 t588 t591 t594 t597 _ ?side1 ?side2 ?side3 ?side4 A33.out).mono ?_); (case side1 => repeat (first | exact (Kd.R_reads' HO_584003.out).2.2 | (with_reducible refine Kd.C_alloc ?_ _) | (with_reducible refine Kd.C_drewN ?_ _) | (with_reducible refine Kd.C_drew ?_))); (case side2 => exact (Kd.R_reads' HO_584003.out).2.1); (case side3 => repeat (first | exact (Kd.R_reads' HO_584004.out).2.2 | (with_reducible refine Kd.C_alloc ?_ _) | (with_reducible refine Kd.C_drewN ?_ _) | (with_reducible refine Kd.C_drew ?_))); (case side4 => exact (Kd.R_reads' HO_584004.out).2.1); rintro e w51 ⟨v589, v592, v595, rfl, ho0, ho1, ho2, hb⟩; refine ⟨_, rfl, ?_⟩; have HO590 := Aside0.mk (Kd.R_lower (Kd.R_new' ho0 (Kd.R_lt (by (with_reducible repeat (first | apply Kd.R_alloc | apply Kd.R_drewN | apply Kd.R_drew)); exact HO_584003.out))) (below_size (pB HB))); have HO593 := Aside0.mk (Kd.R_lower (Kd.R_new' ho1 (Kd.R_lt (by (with_reducible repeat (first | apply Kd.R_alloc | apply Kd.R_drewN | apply Kd.R_drew)); exact HO_584004.out))) (below_size (pB HB))); have HO596 := Aside0.mk (Kd.R_lower ho2 (below_size (pB HB))); replace HO_584003 := Aside0.mk (Kd.R_elder' (by (with_reducible repeat (first | apply Kd.R_alloc | apply Kd.R_drewN | apply Kd.R_drew)); exact HO_584003.out) (Kd.R_base ho0) hb); replace HO_584004 := Aside0.mk (Kd.R_elder' (by (with_reducible repeat (first | apply Kd.R_alloc | apply Kd.R_drewN | apply Kd.R_drew)); exact HO_584004.out) (Kd.R_base ho1) hb); replace BK572 := bB BK572 hb; replace BK573 := bB BK573 hb; replace BK583 := bB BK583 hb; replace BK584 := bB BK584 hb; replace HB := Aside0.mk (below_step (pB HB) hb); (try clear hb); (try clear ho0); (try clear ho1); (try clear ho2)) | ((with_reducible refine gate_dst (N := 21) rfl ?_); refine boxE (N := 21) #[.int .i64 0, .int .i64 0, .int .i64 0, .slice none 0 0, .slice none 0 0] 30 ?_; intro gb598 hg w52 hbox hb; have BK598 := Aside0.mk (hbox); have GW598 := gS HB hg; have GE598 := gS HB hg; have NB572_598 := nL BK572 hg; have NB598_572 := nG BK572 hg; have NB573_598 := nL BK573 hg; have NB598_573 := nG BK573 hg; have NB583_598 := nL BK583 hg; have NB598_583 := nG BK583 hg; have NB584_598 := nL BK584 hg; have NB598_584 := nG BK584 hg; replace HO_584003 := rB HO_584003 hb; replace HO_584004 := rB HO_584004 hb; replace HO590 := rB HO590 hb; replace HO593 := rB HO593 hb; replace HO596 := rB HO596 hb; replace BK572 := bB BK572 hb; replace BK573 := bB BK573 hb; replace BK583 := bB BK583 hb; replace BK584 := bB BK584 hb; replace HB := Aside0.mk (below_step (pB HB) hb); clear hb hbox hg; have hnb53 := NB598_572.out; have hnc53 := NB572_598.out; have hnb54 := NB598_573.out; have hnc54 := NB573_598.out; have hnb55 := NB598_583.out; have hnc55 := NB583_598.out; have hnb56 := NB598_584.out; have hnc56 := NB584_598.out; obtain ⟨hcz57_0, hcz57_1, hcz57_2, hcz57_3, hcz57_4⟩ := cells5 BK598; obtain ⟨hfz57_0, hfz57_1, hfz57_2, hfz57_3, hfz57_4⟩ := frz5 BK598; obtain ⟨Ao58, co58, eo58⟩ := Kd.R_slice HO590.out; subst eo58; obtain ⟨Ao59, co59, eo59⟩ := Kd.R_slice HO593.out; subst eo59; obtain ⟨hcz60_0, hcz60_1, hcz60_2, hcz60_3, hcz60_4⟩ := cells5 BK583; obtain ⟨hfz60_0, hfz60_1, hfz60_2, hfz60_3, hfz60_4⟩ := frz5 BK583; obtain ⟨hcz61_0, hcz61_1, hcz61_2, hcz61_3⟩ := cells4 BK584; obtain ⟨hfz61_0, hfz61_1, hfz61_2, hfz61_3⟩ := frz4 BK584) | ((with_reducible refine gate_callee (f := 28) rfl ?_); refine goesL_ (some 74) rfl rfl Try.func28 (by kernel_rfl) rfl #[.agg #[.int .i64 t574, .int .i64 t575, .int .i64 t576, .slice Ao21 t577.length co21, .slice Ao22 t580.length co22], .agg #[.int .i64 (wrap64 (Int.tmod a4 8)), .int .i64 x585001_10, .int .i64 (wrap64 ((wrap64 (Int.tmod a5 5)) - ((Int.tdiv a5 250) % 256))), .int .i64 (wrap64 ((wrap64 (Int.tmod a6 6)) - 1))]] rfl (by (try simp only [List.map_toArray, List.map_cons, List.map_nil]); first | done | rfl | (simp only [List.length_drop, List.length_take]; rfl)) ?_; (with_reducible refine (ref_File.calls kj10 t574 t575 t576 _ _ t577 _ _ t580 (wrap64 (Int.tmod a4 8)) x585001_10 (wrap64 ((wrap64 (Int.tmod a5 5)) - ((Int.tdiv a5 250) % 256))) (wrap64 ((wrap64 (Int.tmod a6 6)) - 1)) t599 t600 t601 t602 t605 t608 t611 _ ?side1 ?side2 ?side3 ?side4 A34.out).mono ?_); (case side1 => refine (Kd.R_reads' (e := 3) (base := w.heap.size) (ok := fun k_ => (True ∧ some k_ ≠ (.slice Ao58 t588.length co58 : Value).ownBlock)) (n := t577.length) (c := co21) ?_).2.2; exact (by (with_reducible repeat (first | apply Kd.R_alloc | apply Kd.R_drewN | apply Kd.R_drew)); exact (Kd.R_mono (Kd.R_far (p := ⟨gb598, 4, none⟩) (Kd.R_far (p := ⟨gb598, 3, none⟩) (Kd.R_far (p := ⟨gb598, 2, none⟩) (Kd.R_far (p := ⟨gb598, 1, none⟩) (Kd.R_far (p := ⟨gb598, 0, none⟩) (Kd.R_types HO_584003.out BK598.out (by decide)) (fun _ hk => hk.2) (.int .i64 t585)) (fun _ hk => hk.2) (.int .i64 t586)) (fun _ hk => hk.2) (.int .i64 t587)) (fun _ hk => hk.2) (.slice Ao58 t588.length co58)) (fun _ hk => hk.2) (.slice Ao59 t591.length co59)) (fun _ h_ => h_.1)))); (case side2 => exact (Kd.R_reads' HO_584003.out).2.1); (case side3 => refine (Kd.R_reads' (e := 50) (base := w.heap.size) (ok := fun k_ => (True ∧ some k_ ≠ (.slice Ao59 t591.length co59 : Value).ownBlock)) (n := t580.length) (c := co22) ?_).2.2; exact (by (with_reducible repeat (first | apply Kd.R_alloc | apply Kd.R_drewN | apply Kd.R_drew)); exact (Kd.R_mono (Kd.R_far (p := ⟨gb598, 4, none⟩) (Kd.R_far (p := ⟨gb598, 3, none⟩) (Kd.R_far (p := ⟨gb598, 2, none⟩) (Kd.R_far (p := ⟨gb598, 1, none⟩) (Kd.R_far (p := ⟨gb598, 0, none⟩) (Kd.R_types HO_584004.out BK598.out (by decide)) (fun _ hk => hk.2) (.int .i64 t585)) (fun _ hk => hk.2) (.int .i64 t586)) (fun _ hk => hk.2) (.int .i64 t587)) (fun _ hk => hk.2) (.slice Ao58 t588.length co58)) (fun _ hk => hk.2) (.slice Ao59 t591.length co59)) (fun _ h_ => h_.1)))); (case side4 => exact (Kd.R_reads' HO_584004.out).2.1); rintro e w62 ⟨v603, v606, v609, rfl, ho0, ho1, ho2, hb⟩; refine ⟨_, rfl, ?_⟩; have HO604 := Aside0.mk (Kd.R_lower (Kd.R_new' (Kd.R_new' ho0 (Kd.R_lt (by (with_reducible repeat (first | apply Kd.R_alloc | apply Kd.R_drewN | apply Kd.R_drew)); exact (Kd.R_mono (Kd.R_far (p := ⟨gb598, 4, none⟩) (Kd.R_far (p := ⟨gb598, 3, none⟩) (Kd.R_far (p := ⟨gb598, 2, none⟩) (Kd.R_far (p := ⟨gb598, 1, none⟩) (Kd.R_far (p := ⟨gb598, 0, none⟩) (Kd.R_types HO_584003.out BK598.out (by decide)) (fun _ hk => hk.2) (.int .i64 t585)) (fun _ hk => hk.2) (.int .i64 t586)) (fun _ hk => hk.2) (.int .i64 t587)) (fun _ hk => hk.2) (.slice Ao58 t588.length co58)) (fun _ hk => hk.2) (.slice Ao59 t591.length co59)) (fun _ h_ => h_.1))))) (Kd.R_lt (by (with_reducible repeat (first | apply Kd.R_alloc | apply Kd.R_drewN | apply Kd.R_drew)); exact (Kd.R_mono (Kd.R_far (p := ⟨gb598, 4, none⟩) (Kd.R_far (p := ⟨gb598, 3, none⟩) (Kd.R_far (p := ⟨gb598, 2, none⟩) (Kd.R_far (p := ⟨gb598, 1, none⟩) (Kd.R_far (p := ⟨gb598, 0, none⟩) (Kd.R_types HO590.out BK598.out (by decide)) (fun _ hk => hk.2) (.int .i64 t585)) (fun _ hk => hk.2) (.int .i64 t586)) (fun _ hk => hk.2) (.int .i64 t587)) (fun _ hk => hk.2) (.slice Ao58 t588.length co58)) (fun _ hk => hk.2) (.slice Ao59 t591.length co59)) (fun _ h_ => h_.1))))) (below_size (pB HB))); have HO607 := Aside0.mk (Kd.R_lower (Kd.R_new' (Kd.R_new' ho1 (Kd.R_lt (by (with_reducible repeat (first | apply Kd.R_alloc | apply Kd.R_drewN | apply Kd.R_drew)); exact (Kd.R_mono (Kd.R_far (p := ⟨gb598, 4, none⟩) (Kd.R_far (p := ⟨gb598, 3, none⟩) (Kd.R_far (p := ⟨gb598, 2, none⟩) (Kd.R_far (p := ⟨gb598, 1, none⟩) (Kd.R_far (p := ⟨gb598, 0, none⟩) (Kd.R_types HO_584004.out BK598.out (by decide)) (fun _ hk => hk.2) (.int .i64 t585)) (fun _ hk => hk.2) (.int .i64 t586)) (fun _ hk => hk.2) (.int .i64 t587)) (fun _ hk => hk.2) (.slice Ao58 t588.length co58)) (fun _ hk => hk.2) (.slice Ao59 t591.length co59)) (fun _ h_ => h_.1))))) (Kd.R_lt (by (with_reducible repeat (first | apply Kd.R_alloc | apply Kd.R_drewN | apply Kd.R_drew)); exact (Kd.R_mono (Kd.R_far (p := ⟨gb598, 4, none⟩) (Kd.R_far (p := ⟨gb598, 3, none⟩) (Kd.R_far (p := ⟨gb598, 2, none⟩) (Kd.R_far (p := ⟨gb598, 1, none⟩) (Kd.R_far (p := ⟨gb598, 0, none⟩) (Kd.R_types HO593.out BK598.out (by decide)) (fun _ hk => hk.2) (.int .i64 t585)) (fun _ hk => hk.2) (.int .i64 t586)) (fun _ hk => hk.2) (.int .i64 t587)) (fun _ hk => hk.2) (.slice Ao58 t588.length co58)) (fun _ hk => hk.2) (.slice Ao59 t591.length co59)) (fun _ h_ => h_.1))))) (below_size (pB HB))); have HO610 := Aside0.mk (Kd.R_lower (Kd.R_new' ho2 (Kd.R_lt (by (with_reducible repeat (first | apply Kd.R_alloc | apply Kd.R_drewN | apply Kd.R_drew)); exact (Kd.R_mono (Kd.R_far (p := ⟨gb598, 4, none⟩) (Kd.R_far (p := ⟨gb598, 3, none⟩) (Kd.R_far (p := ⟨gb598, 2, none⟩) (Kd.R_far (p := ⟨gb598, 1, none⟩) (Kd.R_far (p := ⟨gb598, 0, none⟩) (Kd.R_types HO596.out BK598.out (by decide)) (fun _ hk => hk.2) (.int .i64 t585)) (fun _ hk => hk.2) (.int .i64 t586)) (fun _ hk => hk.2) (.int .i64 t587)) (fun _ hk => hk.2) (.slice Ao58 t588.length co58)) (fun _ hk => hk.2) (.slice Ao59 t591.length co59)) (fun _ h_ => h_.1))))) (below_size (pB HB))); replace HO_584003 := Aside0.mk (Kd.R_elder' (by (with_reducible repeat (first | apply Kd.R_alloc | apply Kd.R_drewN | apply Kd.R_drew)); exact (Kd.R_mono (Kd.R_far (p := ⟨gb598, 4, none⟩) (Kd.R_far (p := ⟨gb598, 3, none⟩) (Kd.R_far (p := ⟨gb598, 2, none⟩) (Kd.R_far (p := ⟨gb598, 1, none⟩) (Kd.R_far (p := ⟨gb598, 0, none⟩) (Kd.R_types HO_584003.out BK598.out (by decide)) (fun _ hk => hk.2) (.int .i64 t585)) (fun _ hk => hk.2) (.int .i64 t586)) (fun _ hk => hk.2) (.int .i64 t587)) (fun _ hk => hk.2) (.slice Ao58 t588.length co58)) (fun _ hk => hk.2) (.slice Ao59 t591.length co59)) (fun _ h_ => h_.1))) (Kd.R_base ho0) hb); replace HO_584004 := Aside0.mk (Kd.R_elder' (by (with_reducible repeat (first | apply Kd.R_alloc | apply Kd.R_drewN | apply Kd.R_drew)); exact (Kd.R_mono (Kd.R_far (p := ⟨gb598, 4, none⟩) (Kd.R_far (p := ⟨gb598, 3, none⟩) (Kd.R_far (p := ⟨gb598, 2, none⟩) (Kd.R_far (p := ⟨gb598, 1, none⟩) (Kd.R_far (p := ⟨gb598, 0, none⟩) (Kd.R_types HO_584004.out BK598.out (by decide)) (fun _ hk => hk.2) (.int .i64 t585)) (fun _ hk => hk.2) (.int .i64 t586)) (fun _ hk => hk.2) (.int .i64 t587)) (fun _ hk => hk.2) (.slice Ao58 t588.length co58)) (fun _ hk => hk.2) (.slice Ao59 t591.length co59)) (fun _ h_ => h_.1))) (Kd.R_base ho1) hb); replace HO590 := Aside0.mk (Kd.R_elder' (by (with_reducible repeat (first | apply Kd.R_alloc | apply Kd.R_drewN | apply Kd.R_drew)); exact (Kd.R_mono (Kd.R_far (p := ⟨gb598, 4, none⟩) (Kd.R_far (p := ⟨gb598, 3, none⟩) (Kd.R_far (p := ⟨gb598, 2, none⟩) (Kd.R_far (p := ⟨gb598, 1, none⟩) (Kd.R_far (p := ⟨gb598, 0, none⟩) (Kd.R_types HO590.out BK598.out (by decide)) (fun _ hk => hk.2) (.int .i64 t585)) (fun _ hk => hk.2) (.int .i64 t586)) (fun _ hk => hk.2) (.int .i64 t587)) (fun _ hk => hk.2) (.slice Ao58 t588.length co58)) (fun _ hk => hk.2) (.slice Ao59 t591.length co59)) (fun _ h_ => h_.1))) (Kd.R_base ho0) hb); replace HO593 := Aside0.mk (Kd.R_elder' (by (with_reducible repeat (first | apply Kd.R_alloc | apply Kd.R_drewN | apply Kd.R_drew)); exact (Kd.R_mono (Kd.R_far (p := ⟨gb598, 4, none⟩) (Kd.R_far (p := ⟨gb598, 3, none⟩) (Kd.R_far (p := ⟨gb598, 2, none⟩) (Kd.R_far (p := ⟨gb598, 1, none⟩) (Kd.R_far (p := ⟨gb598, 0, none⟩) (Kd.R_types HO593.out BK598.out (by decide)) (fun _ hk => hk.2) (.int .i64 t585)) (fun _ hk => hk.2) (.int .i64 t586)) (fun _ hk => hk.2) (.int .i64 t587)) (fun _ hk => hk.2) (.slice Ao58 t588.length co58)) (fun _ hk => hk.2) (.slice Ao59 t591.length co59)) (fun _ h_ => h_.1))) (Kd.R_base ho1) hb); replace HO596 := Aside0.mk (Kd.R_elder' (by (with_reducible repeat (first | apply Kd.R_alloc | apply Kd.R_drewN | apply Kd.R_drew)); exact (Kd.R_mono (Kd.R_far (p := ⟨gb598, 4, none⟩) (Kd.R_far (p := ⟨gb598, 3, none⟩) (Kd.R_far (p := ⟨gb598, 2, none⟩) (Kd.R_far (p := ⟨gb598, 1, none⟩) (Kd.R_far (p := ⟨gb598, 0, none⟩) (Kd.R_types HO596.out BK598.out (by decide)) (fun _ hk => hk.2) (.int .i64 t585)) (fun _ hk => hk.2) (.int .i64 t586)) (fun _ hk => hk.2) (.int .i64 t587)) (fun _ hk => hk.2) (.slice Ao58 t588.length co58)) (fun _ hk => hk.2) (.slice Ao59 t591.length co59)) (fun _ h_ => h_.1))) (Kd.R_base ho2) hb); replace BK572 := Aside0.mk (blk_below (g := gb572) (o := .cells #[.int .u8 a0_0, .int .u8 a0_1] 22 (0, 0)) (by (with_reducible repeat (first | refine blk_drewN ?_ _ | refine blk_drew ?_ | refine blk_alloc ?_ _)); refine blk_far ?_ NB572_598.out _; (with_reducible repeat (first | refine blk_drewN ?_ _ | refine blk_drew ?_ | refine blk_alloc ?_ _)); refine blk_far ?_ NB572_598.out _; (with_reducible repeat (first | refine blk_drewN ?_ _ | refine blk_drew ?_ | refine blk_alloc ?_ _)); refine blk_far ?_ NB572_598.out _; (with_reducible repeat (first | refine blk_drewN ?_ _ | refine blk_drew ?_ | refine blk_alloc ?_ _)); refine blk_far ?_ NB572_598.out _; (with_reducible repeat (first | refine blk_drewN ?_ _ | refine blk_drew ?_ | refine blk_alloc ?_ _)); refine blk_far ?_ NB572_598.out _; (with_reducible repeat (first | refine blk_drewN ?_ _ | refine blk_drew ?_ | refine blk_alloc ?_ _)); exact BK572.out) hb); replace BK573 := Aside0.mk (blk_below (g := gb573) (o := .cells #[.int .i64 a3_0, .int .i64 a3_1, .int .i64 a3_2, .int .i64 a3_3] 47 (0, 0)) (by (with_reducible repeat (first | refine blk_drewN ?_ _ | refine blk_drew ?_ | refine blk_alloc ?_ _)); refine blk_far ?_ NB573_598.out _; (with_reducible repeat (first | refine blk_drewN ?_ _ | refine blk_drew ?_ | refine blk_alloc ?_ _)); refine blk_far ?_ NB573_598.out _; (with_reducible repeat (first | refine blk_drewN ?_ _ | refine blk_drew ?_ | refine blk_alloc ?_ _)); refine blk_far ?_ NB573_598.out _; (with_reducible repeat (first | refine blk_drewN ?_ _ | refine blk_drew ?_ | refine blk_alloc ?_ _)); refine blk_far ?_ NB573_598.out _; (with_reducible repeat (first | refine blk_drewN ?_ _ | refine blk_drew ?_ | refine blk_alloc ?_ _)); refine blk_far ?_ NB573_598.out _; (with_reducible repeat (first | refine blk_drewN ?_ _ | refine blk_drew ?_ | refine blk_alloc ?_ _)); exact BK573.out) hb); replace BK583 := Aside0.mk (blk_below (g := gb583) (o := .cells #[.int .i64 t574, .int .i64 t575, .int .i64 t576, .slice Ao21 t577.length co21, .slice Ao22 t580.length co22] 30 (0, 0)) (by (with_reducible repeat (first | refine blk_drewN ?_ _ | refine blk_drew ?_ | refine blk_alloc ?_ _)); refine blk_far ?_ NB583_598.out _; (with_reducible repeat (first | refine blk_drewN ?_ _ | refine blk_drew ?_ | refine blk_alloc ?_ _)); refine blk_far ?_ NB583_598.out _; (with_reducible repeat (first | refine blk_drewN ?_ _ | refine blk_drew ?_ | refine blk_alloc ?_ _)); refine blk_far ?_ NB583_598.out _; (with_reducible repeat (first | refine blk_drewN ?_ _ | refine blk_drew ?_ | refine blk_alloc ?_ _)); refine blk_far ?_ NB583_598.out _; (with_reducible repeat (first | refine blk_drewN ?_ _ | refine blk_drew ?_ | refine blk_alloc ?_ _)); refine blk_far ?_ NB583_598.out _; (with_reducible repeat (first | refine blk_drewN ?_ _ | refine blk_drew ?_ | refine blk_alloc ?_ _)); exact BK583.out) hb); replace BK584 := Aside0.mk (blk_below (g := gb584) (o := .cells #[.int .i64 (wrap64 (Int.tmod a4 8)), .int .i64 x585001_10, .int .i64 (wrap64 ((wrap64 (Int.tmod a5 5)) - ((Int.tdiv a5 250) % 256))), .int .i64 (wrap64 ((wrap64 (Int.tmod a6 6)) - 1))] 47 (0, 0)) (by (with_reducible repeat (first | refine blk_drewN ?_ _ | refine blk_drew ?_ | refine blk_alloc ?_ _)); refine blk_far ?_ NB584_598.out _; (with_reducible repeat (first | refine blk_drewN ?_ _ | refine blk_drew ?_ | refine blk_alloc ?_ _)); refine blk_far ?_ NB584_598.out _; (with_reducible repeat (first | refine blk_drewN ?_ _ | refine blk_drew ?_ | refine blk_alloc ?_ _)); refine blk_far ?_ NB584_598.out _; (with_reducible repeat (first | refine blk_drewN ?_ _ | refine blk_drew ?_ | refine blk_alloc ?_ _)); refine blk_far ?_ NB584_598.out _; (with_reducible repeat (first | refine blk_drewN ?_ _ | refine blk_drew ?_ | refine blk_alloc ?_ _)); refine blk_far ?_ NB584_598.out _; (with_reducible repeat (first | refine blk_drewN ?_ _ | refine blk_drew ?_ | refine blk_alloc ?_ _)); exact BK584.out) hb); replace BK598 := Aside0.mk (blk_below (g := gb598) (o := .cells #[.int .i64 t585, .int .i64 t586, .int .i64 t587, .slice Ao58 t588.length co58, .slice Ao59 t591.length co59] 30 (0, 0)) (by (with_reducible repeat (first | refine blk_drewN ?_ _ | refine blk_drew ?_ | refine blk_alloc ?_ _)); refine blk_put (cs := #[.int .i64 t585, .int .i64 t586, .int .i64 t587, .slice Ao58 t588.length co58, .slice none 0 0]) ?_ 4 _ rfl; (with_reducible repeat (first | refine blk_drewN ?_ _ | refine blk_drew ?_ | refine blk_alloc ?_ _)); refine blk_put (cs := #[.int .i64 t585, .int .i64 t586, .int .i64 t587, .slice none 0 0, .slice none 0 0]) ?_ 3 _ rfl; (with_reducible repeat (first | refine blk_drewN ?_ _ | refine blk_drew ?_ | refine blk_alloc ?_ _)); refine blk_put (cs := #[.int .i64 t585, .int .i64 t586, .int .i64 0, .slice none 0 0, .slice none 0 0]) ?_ 2 _ rfl; (with_reducible repeat (first | refine blk_drewN ?_ _ | refine blk_drew ?_ | refine blk_alloc ?_ _)); refine blk_put (cs := #[.int .i64 t585, .int .i64 0, .int .i64 0, .slice none 0 0, .slice none 0 0]) ?_ 1 _ rfl; (with_reducible repeat (first | refine blk_drewN ?_ _ | refine blk_drew ?_ | refine blk_alloc ?_ _)); refine blk_put (cs := #[.int .i64 0, .int .i64 0, .int .i64 0, .slice none 0 0, .slice none 0 0]) ?_ 0 _ rfl; (with_reducible repeat (first | refine blk_drewN ?_ _ | refine blk_drew ?_ | refine blk_alloc ?_ _)); exact BK598.out) hb); replace HB := Aside0.mk (below_step (pB HB) hb); (try clear hb); (try clear ho0); (try clear ho1); (try clear ho2)) | ((with_reducible refine gate_dst (N := 24) rfl ?_); refine boxE (N := 24) #[.int .i64 0, .int .i64 0, .int .i64 0, .slice none 0 0, .slice none 0 0] 30 ?_; intro gb612 hg w63 hbox hb; have BK612 := Aside0.mk (hbox); have GW612 := gS HB hg; have GE612 := gS HB hg; have NB572_612 := nL BK572 hg; have NB612_572 := nG BK572 hg; have NB573_612 := nL BK573 hg; have NB612_573 := nG BK573 hg; have NB583_612 := nL BK583 hg; have NB612_583 := nG BK583 hg; have NB584_612 := nL BK584 hg; have NB612_584 := nG BK584 hg; have NB598_612 := nL BK598 hg; have NB612_598 := nG BK598 hg; replace HO_584003 := rB HO_584003 hb; replace HO_584004 := rB HO_584004 hb; replace HO590 := rB HO590 hb; replace HO593 := rB HO593 hb; replace HO596 := rB HO596 hb; replace HO604 := rB HO604 hb; replace HO607 := rB HO607 hb; replace HO610 := rB HO610 hb; replace BK572 := bB BK572 hb; replace BK573 := bB BK573 hb; replace BK583 := bB BK583 hb; replace BK584 := bB BK584 hb; replace BK598 := bB BK598 hb; replace HB := Aside0.mk (below_step (pB HB) hb); clear hb hbox hg; have hnb64 := NB612_572.out; have hnc64 := NB572_612.out; have hnb65 := NB612_573.out; have hnc65 := NB573_612.out; have hnb66 := NB612_583.out; have hnc66 := NB583_612.out; have hnb67 := NB612_584.out; have hnc67 := NB584_612.out; have hnb68 := NB612_598.out; have hnc68 := NB598_612.out; obtain ⟨hcz69_0, hcz69_1, hcz69_2, hcz69_3, hcz69_4⟩ := cells5 BK612; obtain ⟨hfz69_0, hfz69_1, hfz69_2, hfz69_3, hfz69_4⟩ := frz5 BK612; obtain ⟨Ao70, co70, eo70⟩ := Kd.R_slice HO604.out; subst eo70; obtain ⟨Ao71, co71, eo71⟩ := Kd.R_slice HO607.out; subst eo71; obtain ⟨hcz72_0, hcz72_1, hcz72_2, hcz72_3, hcz72_4⟩ := cells5 BK583; obtain ⟨hfz72_0, hfz72_1, hfz72_2, hfz72_3, hfz72_4⟩ := frz5 BK583; have hnb73 := NB573_572.out; have hnc73 := NB572_573.out; obtain ⟨hcz74_0, hcz74_1, hcz74_2, hcz74_3⟩ := cells4 BK573; obtain ⟨hfz74_0, hfz74_1, hfz74_2, hfz74_3⟩ := frz4 BK573) | ((with_reducible refine gate_callee (f := 20) rfl ?_); refine goesL_ (some 81) rfl rfl Try.func20 (by kernel_rfl) rfl #[.agg #[.int .i64 t574, .int .i64 t575, .int .i64 t576, .slice Ao21 t577.length co21, .slice Ao22 t580.length co22], .agg #[.int .i64 a3_0, .int .i64 a3_1, .int .i64 a3_2, .int .i64 a3_3]] rfl (by (try simp only [List.map_toArray, List.map_cons, List.map_nil]); first | done | rfl | (simp only [List.length_drop, List.length_take]; rfl)) ?_; (with_reducible refine (docket_File.calls kj10 t574 t575 t576 _ _ t577 _ _ t580 a3_0 a3_1 a3_2 a3_3 t613 t614 t615 t616 t619 t622 t625 _ ?side1 ?side2 ?side3 ?side4 A35.out).mono ?_); (case side1 => refine (Kd.R_reads' (e := 3) (base := w.heap.size) (ok := fun k_ => ((True ∧ some k_ ≠ (.slice Ao58 t588.length co58 : Value).ownBlock) ∧ some k_ ≠ (.slice Ao70 t602.length co70 : Value).ownBlock)) (n := t577.length) (c := co21) ?_).2.2; exact (by (with_reducible repeat (first | apply Kd.R_alloc | apply Kd.R_drewN | apply Kd.R_drew)); exact (Kd.R_mono (Kd.R_far (p := ⟨gb612, 4, none⟩) (Kd.R_far (p := ⟨gb612, 3, none⟩) (Kd.R_far (p := ⟨gb612, 2, none⟩) (Kd.R_far (p := ⟨gb612, 1, none⟩) (Kd.R_far (p := ⟨gb612, 0, none⟩) (Kd.R_types HO_584003.out BK612.out (by decide)) (fun _ hk => hk.2) (.int .i64 t599)) (fun _ hk => hk.2) (.int .i64 t600)) (fun _ hk => hk.2) (.int .i64 t601)) (fun _ hk => hk.2) (.slice Ao70 t602.length co70)) (fun _ hk => hk.2) (.slice Ao71 t605.length co71)) (fun _ h_ => h_.1)))); (case side2 => exact (Kd.R_reads' HO_584003.out).2.1); (case side3 => refine (Kd.R_reads' (e := 50) (base := w.heap.size) (ok := fun k_ => ((True ∧ some k_ ≠ (.slice Ao59 t591.length co59 : Value).ownBlock) ∧ some k_ ≠ (.slice Ao71 t605.length co71 : Value).ownBlock)) (n := t580.length) (c := co22) ?_).2.2; exact (by (with_reducible repeat (first | apply Kd.R_alloc | apply Kd.R_drewN | apply Kd.R_drew)); exact (Kd.R_mono (Kd.R_far (p := ⟨gb612, 4, none⟩) (Kd.R_far (p := ⟨gb612, 3, none⟩) (Kd.R_far (p := ⟨gb612, 2, none⟩) (Kd.R_far (p := ⟨gb612, 1, none⟩) (Kd.R_far (p := ⟨gb612, 0, none⟩) (Kd.R_types HO_584004.out BK612.out (by decide)) (fun _ hk => hk.2) (.int .i64 t599)) (fun _ hk => hk.2) (.int .i64 t600)) (fun _ hk => hk.2) (.int .i64 t601)) (fun _ hk => hk.2) (.slice Ao70 t602.length co70)) (fun _ hk => hk.2) (.slice Ao71 t605.length co71)) (fun _ h_ => h_.1)))); (case side4 => exact (Kd.R_reads' HO_584004.out).2.1); rintro e w75 ⟨v617, v620, v623, rfl, ho0, ho1, ho2, hb⟩; refine ⟨_, rfl, ?_⟩; have HO618 := Aside0.mk (Kd.R_lower (Kd.R_new' (Kd.R_new' (Kd.R_new' ho0 (Kd.R_lt (by (with_reducible repeat (first | apply Kd.R_alloc | apply Kd.R_drewN | apply Kd.R_drew)); exact (Kd.R_mono (Kd.R_far (p := ⟨gb612, 4, none⟩) (Kd.R_far (p := ⟨gb612, 3, none⟩) (Kd.R_far (p := ⟨gb612, 2, none⟩) (Kd.R_far (p := ⟨gb612, 1, none⟩) (Kd.R_far (p := ⟨gb612, 0, none⟩) (Kd.R_types HO_584003.out BK612.out (by decide)) (fun _ hk => hk.2) (.int .i64 t599)) (fun _ hk => hk.2) (.int .i64 t600)) (fun _ hk => hk.2) (.int .i64 t601)) (fun _ hk => hk.2) (.slice Ao70 t602.length co70)) (fun _ hk => hk.2) (.slice Ao71 t605.length co71)) (fun _ h_ => h_.1))))) (Kd.R_lt (by (with_reducible repeat (first | apply Kd.R_alloc | apply Kd.R_drewN | apply Kd.R_drew)); exact (Kd.R_mono (Kd.R_far (p := ⟨gb612, 4, none⟩) (Kd.R_far (p := ⟨gb612, 3, none⟩) (Kd.R_far (p := ⟨gb612, 2, none⟩) (Kd.R_far (p := ⟨gb612, 1, none⟩) (Kd.R_far (p := ⟨gb612, 0, none⟩) (Kd.R_types HO590.out BK612.out (by decide)) (fun _ hk => hk.2) (.int .i64 t599)) (fun _ hk => hk.2) (.int .i64 t600)) (fun _ hk => hk.2) (.int .i64 t601)) (fun _ hk => hk.2) (.slice Ao70 t602.length co70)) (fun _ hk => hk.2) (.slice Ao71 t605.length co71)) (fun _ h_ => h_.1))))) (Kd.R_lt (by (with_reducible repeat (first | apply Kd.R_alloc | apply Kd.R_drewN | apply Kd.R_drew)); exact (Kd.R_mono (Kd.R_far (p := ⟨gb612, 4, none⟩) (Kd.R_far (p := ⟨gb612, 3, none⟩) (Kd.R_far (p := ⟨gb612, 2, none⟩) (Kd.R_far (p := ⟨gb612, 1, none⟩) (Kd.R_far (p := ⟨gb612, 0, none⟩) (Kd.R_types HO604.out BK612.out (by decide)) (fun _ hk => hk.2) (.int .i64 t599)) (fun _ hk => hk.2) (.int .i64 t600)) (fun _ hk => hk.2) (.int .i64 t601)) (fun _ hk => hk.2) (.slice Ao70 t602.length co70)) (fun _ hk => hk.2) (.slice Ao71 t605.length co71)) (fun _ h_ => h_.1))))) (below_size (pB HB))); have HO621 := Aside0.mk (Kd.R_lower (Kd.R_new' (Kd.R_new' (Kd.R_new' ho1 (Kd.R_lt (by (with_reducible repeat (first | apply Kd.R_alloc | apply Kd.R_drewN | apply Kd.R_drew)); exact (Kd.R_mono (Kd.R_far (p := ⟨gb612, 4, none⟩) (Kd.R_far (p := ⟨gb612, 3, none⟩) (Kd.R_far (p := ⟨gb612, 2, none⟩) (Kd.R_far (p := ⟨gb612, 1, none⟩) (Kd.R_far (p := ⟨gb612, 0, none⟩) (Kd.R_types HO_584004.out BK612.out (by decide)) (fun _ hk => hk.2) (.int .i64 t599)) (fun _ hk => hk.2) (.int .i64 t600)) (fun _ hk => hk.2) (.int .i64 t601)) (fun _ hk => hk.2) (.slice Ao70 t602.length co70)) (fun _ hk => hk.2) (.slice Ao71 t605.length co71)) (fun _ h_ => h_.1))))) (Kd.R_lt (by (with_reducible repeat (first | apply Kd.R_alloc | apply Kd.R_drewN | apply Kd.R_drew)); exact (Kd.R_mono (Kd.R_far (p := ⟨gb612, 4, none⟩) (Kd.R_far (p := ⟨gb612, 3, none⟩) (Kd.R_far (p := ⟨gb612, 2, none⟩) (Kd.R_far (p := ⟨gb612, 1, none⟩) (Kd.R_far (p := ⟨gb612, 0, none⟩) (Kd.R_types HO593.out BK612.out (by decide)) (fun _ hk => hk.2) (.int .i64 t599)) (fun _ hk => hk.2) (.int .i64 t600)) (fun _ hk => hk.2) (.int .i64 t601)) (fun _ hk => hk.2) (.slice Ao70 t602.length co70)) (fun _ hk => hk.2) (.slice Ao71 t605.length co71)) (fun _ h_ => h_.1))))) (Kd.R_lt (by (with_reducible repeat (first | apply Kd.R_alloc | apply Kd.R_drewN | apply Kd.R_drew)); exact (Kd.R_mono (Kd.R_far (p := ⟨gb612, 4, none⟩) (Kd.R_far (p := ⟨gb612, 3, none⟩) (Kd.R_far (p := ⟨gb612, 2, none⟩) (Kd.R_far (p := ⟨gb612, 1, none⟩) (Kd.R_far (p := ⟨gb612, 0, none⟩) (Kd.R_types HO607.out BK612.out (by decide)) (fun _ hk => hk.2) (.int .i64 t599)) (fun _ hk => hk.2) (.int .i64 t600)) (fun _ hk => hk.2) (.int .i64 t601)) (fun _ hk => hk.2) (.slice Ao70 t602.length co70)) (fun _ hk => hk.2) (.slice Ao71 t605.length co71)) (fun _ h_ => h_.1))))) (below_size (pB HB))); have HO624 := Aside0.mk (Kd.R_lower (Kd.R_new' (Kd.R_new' ho2 (Kd.R_lt (by (with_reducible repeat (first | apply Kd.R_alloc | apply Kd.R_drewN | apply Kd.R_drew)); exact (Kd.R_mono (Kd.R_far (p := ⟨gb612, 4, none⟩) (Kd.R_far (p := ⟨gb612, 3, none⟩) (Kd.R_far (p := ⟨gb612, 2, none⟩) (Kd.R_far (p := ⟨gb612, 1, none⟩) (Kd.R_far (p := ⟨gb612, 0, none⟩) (Kd.R_types HO596.out BK612.out (by decide)) (fun _ hk => hk.2) (.int .i64 t599)) (fun _ hk => hk.2) (.int .i64 t600)) (fun _ hk => hk.2) (.int .i64 t601)) (fun _ hk => hk.2) (.slice Ao70 t602.length co70)) (fun _ hk => hk.2) (.slice Ao71 t605.length co71)) (fun _ h_ => h_.1))))) (Kd.R_lt (by (with_reducible repeat (first | apply Kd.R_alloc | apply Kd.R_drewN | apply Kd.R_drew)); exact (Kd.R_mono (Kd.R_far (p := ⟨gb612, 4, none⟩) (Kd.R_far (p := ⟨gb612, 3, none⟩) (Kd.R_far (p := ⟨gb612, 2, none⟩) (Kd.R_far (p := ⟨gb612, 1, none⟩) (Kd.R_far (p := ⟨gb612, 0, none⟩) (Kd.R_types HO610.out BK612.out (by decide)) (fun _ hk => hk.2) (.int .i64 t599)) (fun _ hk => hk.2) (.int .i64 t600)) (fun _ hk => hk.2) (.int .i64 t601)) (fun _ hk => hk.2) (.slice Ao70 t602.length co70)) (fun _ hk => hk.2) (.slice Ao71 t605.length co71)) (fun _ h_ => h_.1))))) (below_size (pB HB))); replace HO_584003 := Aside0.mk (Kd.R_elder' (by (with_reducible repeat (first | apply Kd.R_alloc | apply Kd.R_drewN | apply Kd.R_drew)); exact (Kd.R_mono (Kd.R_far (p := ⟨gb612, 4, none⟩) (Kd.R_far (p := ⟨gb612, 3, none⟩) (Kd.R_far (p := ⟨gb612, 2, none⟩) (Kd.R_far (p := ⟨gb612, 1, none⟩) (Kd.R_far (p := ⟨gb612, 0, none⟩) (Kd.R_types HO_584003.out BK612.out (by decide)) (fun _ hk => hk.2) (.int .i64 t599)) (fun _ hk => hk.2) (.int .i64 t600)) (fun _ hk => hk.2) (.int .i64 t601)) (fun _ hk => hk.2) (.slice Ao70 t602.length co70)) (fun _ hk => hk.2) (.slice Ao71 t605.length co71)) (fun _ h_ => h_.1))) (Kd.R_base ho0) hb); replace HO_584004 := Aside0.mk (Kd.R_elder' (by (with_reducible repeat (first | apply Kd.R_alloc | apply Kd.R_drewN | apply Kd.R_drew)); exact (Kd.R_mono (Kd.R_far (p := ⟨gb612, 4, none⟩) (Kd.R_far (p := ⟨gb612, 3, none⟩) (Kd.R_far (p := ⟨gb612, 2, none⟩) (Kd.R_far (p := ⟨gb612, 1, none⟩) (Kd.R_far (p := ⟨gb612, 0, none⟩) (Kd.R_types HO_584004.out BK612.out (by decide)) (fun _ hk => hk.2) (.int .i64 t599)) (fun _ hk => hk.2) (.int .i64 t600)) (fun _ hk => hk.2) (.int .i64 t601)) (fun _ hk => hk.2) (.slice Ao70 t602.length co70)) (fun _ hk => hk.2) (.slice Ao71 t605.length co71)) (fun _ h_ => h_.1))) (Kd.R_base ho1) hb); replace HO590 := Aside0.mk (Kd.R_elder' (by (with_reducible repeat (first | apply Kd.R_alloc | apply Kd.R_drewN | apply Kd.R_drew)); exact (Kd.R_mono (Kd.R_far (p := ⟨gb612, 4, none⟩) (Kd.R_far (p := ⟨gb612, 3, none⟩) (Kd.R_far (p := ⟨gb612, 2, none⟩) (Kd.R_far (p := ⟨gb612, 1, none⟩) (Kd.R_far (p := ⟨gb612, 0, none⟩) (Kd.R_types HO590.out BK612.out (by decide)) (fun _ hk => hk.2) (.int .i64 t599)) (fun _ hk => hk.2) (.int .i64 t600)) (fun _ hk => hk.2) (.int .i64 t601)) (fun _ hk => hk.2) (.slice Ao70 t602.length co70)) (fun _ hk => hk.2) (.slice Ao71 t605.length co71)) (fun _ h_ => h_.1))) (Kd.R_base ho0) hb); replace HO593 := Aside0.mk (Kd.R_elder' (by (with_reducible repeat (first | apply Kd.R_alloc | apply Kd.R_drewN | apply Kd.R_drew)); exact (Kd.R_mono (Kd.R_far (p := ⟨gb612, 4, none⟩) (Kd.R_far (p := ⟨gb612, 3, none⟩) (Kd.R_far (p := ⟨gb612, 2, none⟩) (Kd.R_far (p := ⟨gb612, 1, none⟩) (Kd.R_far (p := ⟨gb612, 0, none⟩) (Kd.R_types HO593.out BK612.out (by decide)) (fun _ hk => hk.2) (.int .i64 t599)) (fun _ hk => hk.2) (.int .i64 t600)) (fun _ hk => hk.2) (.int .i64 t601)) (fun _ hk => hk.2) (.slice Ao70 t602.length co70)) (fun _ hk => hk.2) (.slice Ao71 t605.length co71)) (fun _ h_ => h_.1))) (Kd.R_base ho1) hb); replace HO596 := Aside0.mk (Kd.R_elder' (by (with_reducible repeat (first | apply Kd.R_alloc | apply Kd.R_drewN | apply Kd.R_drew)); exact (Kd.R_mono (Kd.R_far (p := ⟨gb612, 4, none⟩) (Kd.R_far (p := ⟨gb612, 3, none⟩) (Kd.R_far (p := ⟨gb612, 2, none⟩) (Kd.R_far (p := ⟨gb612, 1, none⟩) (Kd.R_far (p := ⟨gb612, 0, none⟩) (Kd.R_types HO596.out BK612.out (by decide)) (fun _ hk => hk.2) (.int .i64 t599)) (fun _ hk => hk.2) (.int .i64 t600)) (fun _ hk => hk.2) (.int .i64 t601)) (fun _ hk => hk.2) (.slice Ao70 t602.length co70)) (fun _ hk => hk.2) (.slice Ao71 t605.length co71)) (fun _ h_ => h_.1))) (Kd.R_base ho2) hb); replace HO604 := Aside0.mk (Kd.R_elder' (by (with_reducible repeat (first | apply Kd.R_alloc | apply Kd.R_drewN | apply Kd.R_drew)); exact (Kd.R_mono (Kd.R_far (p := ⟨gb612, 4, none⟩) (Kd.R_far (p := ⟨gb612, 3, none⟩) (Kd.R_far (p := ⟨gb612, 2, none⟩) (Kd.R_far (p := ⟨gb612, 1, none⟩) (Kd.R_far (p := ⟨gb612, 0, none⟩) (Kd.R_types HO604.out BK612.out (by decide)) (fun _ hk => hk.2) (.int .i64 t599)) (fun _ hk => hk.2) (.int .i64 t600)) (fun _ hk => hk.2) (.int .i64 t601)) (fun _ hk => hk.2) (.slice Ao70 t602.length co70)) (fun _ hk => hk.2) (.slice Ao71 t605.length co71)) (fun _ h_ => h_.1))) (Kd.R_base ho0) hb); replace HO607 := Aside0.mk (Kd.R_elder' (by (with_reducible repeat (first | apply Kd.R_alloc | apply Kd.R_drewN | apply Kd.R_drew)); exact (Kd.R_mono (Kd.R_far (p := ⟨gb612, 4, none⟩) (Kd.R_far (p := ⟨gb612, 3, none⟩) (Kd.R_far (p := ⟨gb612, 2, none⟩) (Kd.R_far (p := ⟨gb612, 1, none⟩) (Kd.R_far (p := ⟨gb612, 0, none⟩) (Kd.R_types HO607.out BK612.out (by decide)) (fun _ hk => hk.2) (.int .i64 t599)) (fun _ hk => hk.2) (.int .i64 t600)) (fun _ hk => hk.2) (.int .i64 t601)) (fun _ hk => hk.2) (.slice Ao70 t602.length co70)) (fun _ hk => hk.2) (.slice Ao71 t605.length co71)) (fun _ h_ => h_.1))) (Kd.R_base ho1) hb); replace HO610 := Aside0.mk (Kd.R_elder' (by (with_reducible repeat (first | apply Kd.R_alloc | apply Kd.R_drewN | apply Kd.R_drew)); exact (Kd.R_mono (Kd.R_far (p := ⟨gb612, 4, none⟩) (Kd.R_far (p := ⟨gb612, 3, none⟩) (Kd.R_far (p := ⟨gb612, 2, none⟩) (Kd.R_far (p := ⟨gb612, 1, none⟩) (Kd.R_far (p := ⟨gb612, 0, none⟩) (Kd.R_types HO610.out BK612.out (by decide)) (fun _ hk => hk.2) (.int .i64 t599)) (fun _ hk => hk.2) (.int .i64 t600)) (fun _ hk => hk.2) (.int .i64 t601)) (fun _ hk => hk.2) (.slice Ao70 t602.length co70)) (fun _ hk => hk.2) (.slice Ao71 t605.length co71)) (fun _ h_ => h_.1))) (Kd.R_base ho2) hb); replace BK572 := Aside0.mk (blk_below (g := gb572) (o := .cells #[.int .u8 a0_0, .int .u8 a0_1] 22 (0, 0)) (by (with_reducible repeat (first | refine blk_drewN ?_ _ | refine blk_drew ?_ | refine blk_alloc ?_ _)); refine blk_far ?_ NB572_612.out _; (with_reducible repeat (first | refine blk_drewN ?_ _ | refine blk_drew ?_ | refine blk_alloc ?_ _)); refine blk_far ?_ NB572_612.out _; (with_reducible repeat (first | refine blk_drewN ?_ _ | refine blk_drew ?_ | refine blk_alloc ?_ _)); refine blk_far ?_ NB572_612.out _; (with_reducible repeat (first | refine blk_drewN ?_ _ | refine blk_drew ?_ | refine blk_alloc ?_ _)); refine blk_far ?_ NB572_612.out _; (with_reducible repeat (first | refine blk_drewN ?_ _ | refine blk_drew ?_ | refine blk_alloc ?_ _)); refine blk_far ?_ NB572_612.out _; (with_reducible repeat (first | refine blk_drewN ?_ _ | refine blk_drew ?_ | refine blk_alloc ?_ _)); exact BK572.out) hb); replace BK573 := Aside0.mk (blk_below (g := gb573) (o := .cells #[.int .i64 a3_0, .int .i64 a3_1, .int .i64 a3_2, .int .i64 a3_3] 47 (0, 0)) (by (with_reducible repeat (first | refine blk_drewN ?_ _ | refine blk_drew ?_ | refine blk_alloc ?_ _)); refine blk_far ?_ NB573_612.out _; (with_reducible repeat (first | refine blk_drewN ?_ _ | refine blk_drew ?_ | refine blk_alloc ?_ _)); refine blk_far ?_ NB573_612.out _; (with_reducible repeat (first | refine blk_drewN ?_ _ | refine blk_drew ?_ | refine blk_alloc ?_ _)); refine blk_far ?_ NB573_612.out _; (with_reducible repeat (first | refine blk_drewN ?_ _ | refine blk_drew ?_ | refine blk_alloc ?_ _)); refine blk_far ?_ NB573_612.out _; (with_reducible repeat (first | refine blk_drewN ?_ _ | refine blk_drew ?_ | refine blk_alloc ?_ _)); refine blk_far ?_ NB573_612.out _; (with_reducible repeat (first | refine blk_drewN ?_ _ | refine blk_drew ?_ | refine blk_alloc ?_ _)); exact BK573.out) hb); replace BK583 := Aside0.mk (blk_below (g := gb583) (o := .cells #[.int .i64 t574, .int .i64 t575, .int .i64 t576, .slice Ao21 t577.length co21, .slice Ao22 t580.length co22] 30 (0, 0)) (by (with_reducible repeat (first | refine blk_drewN ?_ _ | refine blk_drew ?_ | refine blk_alloc ?_ _)); refine blk_far ?_ NB583_612.out _; (with_reducible repeat (first | refine blk_drewN ?_ _ | refine blk_drew ?_ | refine blk_alloc ?_ _)); refine blk_far ?_ NB583_612.out _; (with_reducible repeat (first | refine blk_drewN ?_ _ | refine blk_drew ?_ | refine blk_alloc ?_ _)); refine blk_far ?_ NB583_612.out _; (with_reducible repeat (first | refine blk_drewN ?_ _ | refine blk_drew ?_ | refine blk_alloc ?_ _)); refine blk_far ?_ NB583_612.out _; (with_reducible repeat (first | refine blk_drewN ?_ _ | refine blk_drew ?_ | refine blk_alloc ?_ _)); refine blk_far ?_ NB583_612.out _; (with_reducible repeat (first | refine blk_drewN ?_ _ | refine blk_drew ?_ | refine blk_alloc ?_ _)); exact BK583.out) hb); replace BK584 := Aside0.mk (blk_below (g := gb584) (o := .cells #[.int .i64 (wrap64 (Int.tmod a4 8)), .int .i64 x585001_10, .int .i64 (wrap64 ((wrap64 (Int.tmod a5 5)) - ((Int.tdiv a5 250) % 256))), .int .i64 (wrap64 ((wrap64 (Int.tmod a6 6)) - 1))] 47 (0, 0)) (by (with_reducible repeat (first | refine blk_drewN ?_ _ | refine blk_drew ?_ | refine blk_alloc ?_ _)); refine blk_far ?_ NB584_612.out _; (with_reducible repeat (first | refine blk_drewN ?_ _ | refine blk_drew ?_ | refine blk_alloc ?_ _)); refine blk_far ?_ NB584_612.out _; (with_reducible repeat (first | refine blk_drewN ?_ _ | refine blk_drew ?_ | refine blk_alloc ?_ _)); refine blk_far ?_ NB584_612.out _; (with_reducible repeat (first | refine blk_drewN ?_ _ | refine blk_drew ?_ | refine blk_alloc ?_ _)); refine blk_far ?_ NB584_612.out _; (with_reducible repeat (first | refine blk_drewN ?_ _ | refine blk_drew ?_ | refine blk_alloc ?_ _)); refine blk_far ?_ NB584_612.out _; (with_reducible repeat (first | refine blk_drewN ?_ _ | refine blk_drew ?_ | refine blk_alloc ?_ _)); exact BK584.out) hb); replace BK598 := Aside0.mk (blk_below (g := gb598) (o := .cells #[.int .i64 t585, .int .i64 t586, .int .i64 t587, .slice Ao58 t588.length co58, .slice Ao59 t591.length co59] 30 (0, 0)) (by (with_reducible repeat (first | refine blk_drewN ?_ _ | refine blk_drew ?_ | refine blk_alloc ?_ _)); refine blk_far ?_ NB598_612.out _; (with_reducible repeat (first | refine blk_drewN ?_ _ | refine blk_drew ?_ | refine blk_alloc ?_ _)); refine blk_far ?_ NB598_612.out _; (with_reducible repeat (first | refine blk_drewN ?_ _ | refine blk_drew ?_ | refine blk_alloc ?_ _)); refine blk_far ?_ NB598_612.out _; (with_reducible repeat (first | refine blk_drewN ?_ _ | refine blk_drew ?_ | refine blk_alloc ?_ _)); refine blk_far ?_ NB598_612.out _; (with_reducible repeat (first | refine blk_drewN ?_ _ | refine blk_drew ?_ | refine blk_alloc ?_ _)); refine blk_far ?_ NB598_612.out _; (with_reducible repeat (first | refine blk_drewN ?_ _ | refine blk_drew ?_ | refine blk_alloc ?_ _)); exact BK598.out) hb); replace BK612 := Aside0.mk (blk_below (g := gb612) (o := .cells #[.int .i64 t599, .int .i64 t600, .int .i64 t601, .slice Ao70 t602.length co70, .slice Ao71 t605.length co71] 30 (0, 0)) (by (with_reducible repeat (first | refine blk_drewN ?_ _ | refine blk_drew ?_ | refine blk_alloc ?_ _)); refine blk_put (cs := #[.int .i64 t599, .int .i64 t600, .int .i64 t601, .slice Ao70 t602.length co70, .slice none 0 0]) ?_ 4 _ rfl; (with_reducible repeat (first | refine blk_drewN ?_ _ | refine blk_drew ?_ | refine blk_alloc ?_ _)); refine blk_put (cs := #[.int .i64 t599, .int .i64 t600, .int .i64 t601, .slice none 0 0, .slice none 0 0]) ?_ 3 _ rfl; (with_reducible repeat (first | refine blk_drewN ?_ _ | refine blk_drew ?_ | refine blk_alloc ?_ _)); refine blk_put (cs := #[.int .i64 t599, .int .i64 t600, .int .i64 0, .slice none 0 0, .slice none 0 0]) ?_ 2 _ rfl; (with_reducible repeat (first | refine blk_drewN ?_ _ | refine blk_drew ?_ | refine blk_alloc ?_ _)); refine blk_put (cs := #[.int .i64 t599, .int .i64 0, .int .i64 0, .slice none 0 0, .slice none 0 0]) ?_ 1 _ rfl; (with_reducible repeat (first | refine blk_drewN ?_ _ | refine blk_drew ?_ | refine blk_alloc ?_ _)); refine blk_put (cs := #[.int .i64 0, .int .i64 0, .int .i64 0, .slice none 0 0, .slice none 0 0]) ?_ 0 _ rfl; (with_reducible repeat (first | refine blk_drewN ?_ _ | refine blk_drew ?_ | refine blk_alloc ?_ _)); exact BK612.out) hb); replace HB := Aside0.mk (below_step (pB HB) hb); (try clear hb); (try clear ho0); (try clear ho1); (try clear ho2)) | ((with_reducible refine gate_dst (N := 27) rfl ?_); refine boxE (N := 27) #[.int .i64 0, .int .i64 0, .int .i64 0, .slice none 0 0, .slice none 0 0] 30 ?_; intro gb626 hg w76 hbox hb; have BK626 := Aside0.mk (hbox); have GW626 := gS HB hg; have GE626 := gS HB hg; have NB572_626 := nL BK572 hg; have NB626_572 := nG BK572 hg; have NB573_626 := nL BK573 hg; have NB626_573 := nG BK573 hg; have NB583_626 := nL BK583 hg; have NB626_583 := nG BK583 hg; have NB584_626 := nL BK584 hg; have NB626_584 := nG BK584 hg; have NB598_626 := nL BK598 hg; have NB626_598 := nG BK598 hg; have NB612_626 := nL BK612 hg; have NB626_612 := nG BK612 hg; replace HO_584003 := rB HO_584003 hb; replace HO_584004 := rB HO_584004 hb; replace HO590 := rB HO590 hb; replace HO593 := rB HO593 hb; replace HO596 := rB HO596 hb; replace HO604 := rB HO604 hb; replace HO607 := rB HO607 hb; replace HO610 := rB HO610 hb; replace HO618 := rB HO618 hb; replace HO621 := rB HO621 hb; replace HO624 := rB HO624 hb; replace BK572 := bB BK572 hb; replace BK573 := bB BK573 hb; replace BK583 := bB BK583 hb; replace BK584 := bB BK584 hb; replace BK598 := bB BK598 hb; replace BK612 := bB BK612 hb; replace HB := Aside0.mk (below_step (pB HB) hb); clear hb hbox hg; have hnb77 := NB626_572.out; have hnc77 := NB572_626.out; have hnb78 := NB626_573.out; have hnc78 := NB573_626.out; have hnb79 := NB626_583.out; have hnc79 := NB583_626.out; have hnb80 := NB626_584.out; have hnc80 := NB584_626.out; have hnb81 := NB626_598.out; have hnc81 := NB598_626.out; have hnb82 := NB626_612.out; have hnc82 := NB612_626.out; obtain ⟨hcz83_0, hcz83_1, hcz83_2, hcz83_3, hcz83_4⟩ := cells5 BK626; obtain ⟨hfz83_0, hfz83_1, hfz83_2, hfz83_3, hfz83_4⟩ := frz5 BK626; obtain ⟨Ao84, co84, eo84⟩ := Kd.R_slice HO618.out; subst eo84; obtain ⟨Ao85, co85, eo85⟩ := Kd.R_slice HO621.out; subst eo85; obtain ⟨hcz86_0, hcz86_1, hcz86_2, hcz86_3, hcz86_4⟩ := cells5 BK583; obtain ⟨hfz86_0, hfz86_1, hfz86_2, hfz86_3, hfz86_4⟩ := frz5 BK583; obtain ⟨hcz87_0, hcz87_1, hcz87_2, hcz87_3⟩ := cells4 BK573; obtain ⟨hfz87_0, hfz87_1, hfz87_2, hfz87_3⟩ := frz4 BK573) | ((with_reducible refine gate_callee (f := 28) rfl ?_); refine goesL_ (some 88) rfl rfl Try.func28 (by kernel_rfl) rfl #[.agg #[.int .i64 t574, .int .i64 t575, .int .i64 t576, .slice Ao21 t577.length co21, .slice Ao22 t580.length co22], .agg #[.int .i64 a3_0, .int .i64 a3_1, .int .i64 a3_2, .int .i64 a3_3]] rfl (by (try simp only [List.map_toArray, List.map_cons, List.map_nil]); first | done | rfl | (simp only [List.length_drop, List.length_take]; rfl)) ?_; (with_reducible refine (ref_File.calls kj10 t574 t575 t576 _ _ t577 _ _ t580 a3_0 a3_1 a3_2 a3_3 t627 t628 t629 t630 t633 t636 t639 _ ?side1 ?side2 ?side3 ?side4 A36.out).mono ?_); (case side1 => refine (Kd.R_reads' (e := 3) (base := w.heap.size) (ok := fun k_ => (((True ∧ some k_ ≠ (.slice Ao58 t588.length co58 : Value).ownBlock) ∧ some k_ ≠ (.slice Ao70 t602.length co70 : Value).ownBlock) ∧ some k_ ≠ (.slice Ao84 t616.length co84 : Value).ownBlock)) (n := t577.length) (c := co21) ?_).2.2; exact (by (with_reducible repeat (first | apply Kd.R_alloc | apply Kd.R_drewN | apply Kd.R_drew)); exact (Kd.R_mono (Kd.R_far (p := ⟨gb626, 4, none⟩) (Kd.R_far (p := ⟨gb626, 3, none⟩) (Kd.R_far (p := ⟨gb626, 2, none⟩) (Kd.R_far (p := ⟨gb626, 1, none⟩) (Kd.R_far (p := ⟨gb626, 0, none⟩) (Kd.R_types HO_584003.out BK626.out (by decide)) (fun _ hk => hk.2) (.int .i64 t613)) (fun _ hk => hk.2) (.int .i64 t614)) (fun _ hk => hk.2) (.int .i64 t615)) (fun _ hk => hk.2) (.slice Ao84 t616.length co84)) (fun _ hk => hk.2) (.slice Ao85 t619.length co85)) (fun _ h_ => h_.1)))); (case side2 => exact (Kd.R_reads' HO_584003.out).2.1); (case side3 => refine (Kd.R_reads' (e := 50) (base := w.heap.size) (ok := fun k_ => (((True ∧ some k_ ≠ (.slice Ao59 t591.length co59 : Value).ownBlock) ∧ some k_ ≠ (.slice Ao71 t605.length co71 : Value).ownBlock) ∧ some k_ ≠ (.slice Ao85 t619.length co85 : Value).ownBlock)) (n := t580.length) (c := co22) ?_).2.2; exact (by (with_reducible repeat (first | apply Kd.R_alloc | apply Kd.R_drewN | apply Kd.R_drew)); exact (Kd.R_mono (Kd.R_far (p := ⟨gb626, 4, none⟩) (Kd.R_far (p := ⟨gb626, 3, none⟩) (Kd.R_far (p := ⟨gb626, 2, none⟩) (Kd.R_far (p := ⟨gb626, 1, none⟩) (Kd.R_far (p := ⟨gb626, 0, none⟩) (Kd.R_types HO_584004.out BK626.out (by decide)) (fun _ hk => hk.2) (.int .i64 t613)) (fun _ hk => hk.2) (.int .i64 t614)) (fun _ hk => hk.2) (.int .i64 t615)) (fun _ hk => hk.2) (.slice Ao84 t616.length co84)) (fun _ hk => hk.2) (.slice Ao85 t619.length co85)) (fun _ h_ => h_.1)))); (case side4 => exact (Kd.R_reads' HO_584004.out).2.1); rintro e w88 ⟨v631, v634, v637, rfl, ho0, ho1, ho2, hb⟩; refine ⟨_, rfl, ?_⟩; have HO632 := Aside0.mk (Kd.R_lower (Kd.R_new' (Kd.R_new' (Kd.R_new' (Kd.R_new' ho0 (Kd.R_lt (by (with_reducible repeat (first | apply Kd.R_alloc | apply Kd.R_drewN | apply Kd.R_drew)); exact (Kd.R_mono (Kd.R_far (p := ⟨gb626, 4, none⟩) (Kd.R_far (p := ⟨gb626, 3, none⟩) (Kd.R_far (p := ⟨gb626, 2, none⟩) (Kd.R_far (p := ⟨gb626, 1, none⟩) (Kd.R_far (p := ⟨gb626, 0, none⟩) (Kd.R_types HO_584003.out BK626.out (by decide)) (fun _ hk => hk.2) (.int .i64 t613)) (fun _ hk => hk.2) (.int .i64 t614)) (fun _ hk => hk.2) (.int .i64 t615)) (fun _ hk => hk.2) (.slice Ao84 t616.length co84)) (fun _ hk => hk.2) (.slice Ao85 t619.length co85)) (fun _ h_ => h_.1))))) (Kd.R_lt (by (with_reducible repeat (first | apply Kd.R_alloc | apply Kd.R_drewN | apply Kd.R_drew)); exact (Kd.R_mono (Kd.R_far (p := ⟨gb626, 4, none⟩) (Kd.R_far (p := ⟨gb626, 3, none⟩) (Kd.R_far (p := ⟨gb626, 2, none⟩) (Kd.R_far (p := ⟨gb626, 1, none⟩) (Kd.R_far (p := ⟨gb626, 0, none⟩) (Kd.R_types HO590.out BK626.out (by decide)) (fun _ hk => hk.2) (.int .i64 t613)) (fun _ hk => hk.2) (.int .i64 t614)) (fun _ hk => hk.2) (.int .i64 t615)) (fun _ hk => hk.2) (.slice Ao84 t616.length co84)) (fun _ hk => hk.2) (.slice Ao85 t619.length co85)) (fun _ h_ => h_.1))))) (Kd.R_lt (by (with_reducible repeat (first | apply Kd.R_alloc | apply Kd.R_drewN | apply Kd.R_drew)); exact (Kd.R_mono (Kd.R_far (p := ⟨gb626, 4, none⟩) (Kd.R_far (p := ⟨gb626, 3, none⟩) (Kd.R_far (p := ⟨gb626, 2, none⟩) (Kd.R_far (p := ⟨gb626, 1, none⟩) (Kd.R_far (p := ⟨gb626, 0, none⟩) (Kd.R_types HO604.out BK626.out (by decide)) (fun _ hk => hk.2) (.int .i64 t613)) (fun _ hk => hk.2) (.int .i64 t614)) (fun _ hk => hk.2) (.int .i64 t615)) (fun _ hk => hk.2) (.slice Ao84 t616.length co84)) (fun _ hk => hk.2) (.slice Ao85 t619.length co85)) (fun _ h_ => h_.1))))) (Kd.R_lt (by (with_reducible repeat (first | apply Kd.R_alloc | apply Kd.R_drewN | apply Kd.R_drew)); exact (Kd.R_mono (Kd.R_far (p := ⟨gb626, 4, none⟩) (Kd.R_far (p := ⟨gb626, 3, none⟩) (Kd.R_far (p := ⟨gb626, 2, none⟩) (Kd.R_far (p := ⟨gb626, 1, none⟩) (Kd.R_far (p := ⟨gb626, 0, none⟩) (Kd.R_types HO618.out BK626.out (by decide)) (fun _ hk => hk.2) (.int .i64 t613)) (fun _ hk => hk.2) (.int .i64 t614)) (fun _ hk => hk.2) (.int .i64 t615)) (fun _ hk => hk.2) (.slice Ao84 t616.length co84)) (fun _ hk => hk.2) (.slice Ao85 t619.length co85)) (fun _ h_ => h_.1))))) (below_size (pB HB))); have HO635 := Aside0.mk (Kd.R_lower (Kd.R_new' (Kd.R_new' (Kd.R_new' (Kd.R_new' ho1 (Kd.R_lt (by (with_reducible repeat (first | apply Kd.R_alloc | apply Kd.R_drewN | apply Kd.R_drew)); exact (Kd.R_mono (Kd.R_far (p := ⟨gb626, 4, none⟩) (Kd.R_far (p := ⟨gb626, 3, none⟩) (Kd.R_far (p := ⟨gb626, 2, none⟩) (Kd.R_far (p := ⟨gb626, 1, none⟩) (Kd.R_far (p := ⟨gb626, 0, none⟩) (Kd.R_types HO_584004.out BK626.out (by decide)) (fun _ hk => hk.2) (.int .i64 t613)) (fun _ hk => hk.2) (.int .i64 t614)) (fun _ hk => hk.2) (.int .i64 t615)) (fun _ hk => hk.2) (.slice Ao84 t616.length co84)) (fun _ hk => hk.2) (.slice Ao85 t619.length co85)) (fun _ h_ => h_.1))))) (Kd.R_lt (by (with_reducible repeat (first | apply Kd.R_alloc | apply Kd.R_drewN | apply Kd.R_drew)); exact (Kd.R_mono (Kd.R_far (p := ⟨gb626, 4, none⟩) (Kd.R_far (p := ⟨gb626, 3, none⟩) (Kd.R_far (p := ⟨gb626, 2, none⟩) (Kd.R_far (p := ⟨gb626, 1, none⟩) (Kd.R_far (p := ⟨gb626, 0, none⟩) (Kd.R_types HO593.out BK626.out (by decide)) (fun _ hk => hk.2) (.int .i64 t613)) (fun _ hk => hk.2) (.int .i64 t614)) (fun _ hk => hk.2) (.int .i64 t615)) (fun _ hk => hk.2) (.slice Ao84 t616.length co84)) (fun _ hk => hk.2) (.slice Ao85 t619.length co85)) (fun _ h_ => h_.1))))) (Kd.R_lt (by (with_reducible repeat (first | apply Kd.R_alloc | apply Kd.R_drewN | apply Kd.R_drew)); exact (Kd.R_mono (Kd.R_far (p := ⟨gb626, 4, none⟩) (Kd.R_far (p := ⟨gb626, 3, none⟩) (Kd.R_far (p := ⟨gb626, 2, none⟩) (Kd.R_far (p := ⟨gb626, 1, none⟩) (Kd.R_far (p := ⟨gb626, 0, none⟩) (Kd.R_types HO607.out BK626.out (by decide)) (fun _ hk => hk.2) (.int .i64 t613)) (fun _ hk => hk.2) (.int .i64 t614)) (fun _ hk => hk.2) (.int .i64 t615)) (fun _ hk => hk.2) (.slice Ao84 t616.length co84)) (fun _ hk => hk.2) (.slice Ao85 t619.length co85)) (fun _ h_ => h_.1))))) (Kd.R_lt (by (with_reducible repeat (first | apply Kd.R_alloc | apply Kd.R_drewN | apply Kd.R_drew)); exact (Kd.R_mono (Kd.R_far (p := ⟨gb626, 4, none⟩) (Kd.R_far (p := ⟨gb626, 3, none⟩) (Kd.R_far (p := ⟨gb626, 2, none⟩) (Kd.R_far (p := ⟨gb626, 1, none⟩) (Kd.R_far (p := ⟨gb626, 0, none⟩) (Kd.R_types HO621.out BK626.out (by decide)) (fun _ hk => hk.2) (.int .i64 t613)) (fun _ hk => hk.2) (.int .i64 t614)) (fun _ hk => hk.2) (.int .i64 t615)) (fun _ hk => hk.2) (.slice Ao84 t616.length co84)) (fun _ hk => hk.2) (.slice Ao85 t619.length co85)) (fun _ h_ => h_.1))))) (below_size (pB HB))); have HO638 := Aside0.mk (Kd.R_lower (Kd.R_new' (Kd.R_new' (Kd.R_new' ho2 (Kd.R_lt (by (with_reducible repeat (first | apply Kd.R_alloc | apply Kd.R_drewN | apply Kd.R_drew)); exact (Kd.R_mono (Kd.R_far (p := ⟨gb626, 4, none⟩) (Kd.R_far (p := ⟨gb626, 3, none⟩) (Kd.R_far (p := ⟨gb626, 2, none⟩) (Kd.R_far (p := ⟨gb626, 1, none⟩) (Kd.R_far (p := ⟨gb626, 0, none⟩) (Kd.R_types HO596.out BK626.out (by decide)) (fun _ hk => hk.2) (.int .i64 t613)) (fun _ hk => hk.2) (.int .i64 t614)) (fun _ hk => hk.2) (.int .i64 t615)) (fun _ hk => hk.2) (.slice Ao84 t616.length co84)) (fun _ hk => hk.2) (.slice Ao85 t619.length co85)) (fun _ h_ => h_.1))))) (Kd.R_lt (by (with_reducible repeat (first | apply Kd.R_alloc | apply Kd.R_drewN | apply Kd.R_drew)); exact (Kd.R_mono (Kd.R_far (p := ⟨gb626, 4, none⟩) (Kd.R_far (p := ⟨gb626, 3, none⟩) (Kd.R_far (p := ⟨gb626, 2, none⟩) (Kd.R_far (p := ⟨gb626, 1, none⟩) (Kd.R_far (p := ⟨gb626, 0, none⟩) (Kd.R_types HO610.out BK626.out (by decide)) (fun _ hk => hk.2) (.int .i64 t613)) (fun _ hk => hk.2) (.int .i64 t614)) (fun _ hk => hk.2) (.int .i64 t615)) (fun _ hk => hk.2) (.slice Ao84 t616.length co84)) (fun _ hk => hk.2) (.slice Ao85 t619.length co85)) (fun _ h_ => h_.1))))) (Kd.R_lt (by (with_reducible repeat (first | apply Kd.R_alloc | apply Kd.R_drewN | apply Kd.R_drew)); exact (Kd.R_mono (Kd.R_far (p := ⟨gb626, 4, none⟩) (Kd.R_far (p := ⟨gb626, 3, none⟩) (Kd.R_far (p := ⟨gb626, 2, none⟩) (Kd.R_far (p := ⟨gb626, 1, none⟩) (Kd.R_far (p := ⟨gb626, 0, none⟩) (Kd.R_types HO624.out BK626.out (by decide)) (fun _ hk => hk.2) (.int .i64 t613)) (fun _ hk => hk.2) (.int .i64 t614)) (fun _ hk => hk.2) (.int .i64 t615)) (fun _ hk => hk.2) (.slice Ao84 t616.length co84)) (fun _ hk => hk.2) (.slice Ao85 t619.length co85)) (fun _ h_ => h_.1))))) (below_size (pB HB))); replace HO_584003 := Aside0.mk (Kd.R_elder' (by (with_reducible repeat (first | apply Kd.R_alloc | apply Kd.R_drewN | apply Kd.R_drew)); exact (Kd.R_mono (Kd.R_far (p := ⟨gb626, 4, none⟩) (Kd.R_far (p := ⟨gb626, 3, none⟩) (Kd.R_far (p := ⟨gb626, 2, none⟩) (Kd.R_far (p := ⟨gb626, 1, none⟩) (Kd.R_far (p := ⟨gb626, 0, none⟩) (Kd.R_types HO_584003.out BK626.out (by decide)) (fun _ hk => hk.2) (.int .i64 t613)) (fun _ hk => hk.2) (.int .i64 t614)) (fun _ hk => hk.2) (.int .i64 t615)) (fun _ hk => hk.2) (.slice Ao84 t616.length co84)) (fun _ hk => hk.2) (.slice Ao85 t619.length co85)) (fun _ h_ => h_.1))) (Kd.R_base ho0) hb); replace HO_584004 := Aside0.mk (Kd.R_elder' (by (with_reducible repeat (first | apply Kd.R_alloc | apply Kd.R_drewN | apply Kd.R_drew)); exact (Kd.R_mono (Kd.R_far (p := ⟨gb626, 4, none⟩) (Kd.R_far (p := ⟨gb626, 3, none⟩) (Kd.R_far (p := ⟨gb626, 2, none⟩) (Kd.R_far (p := ⟨gb626, 1, none⟩) (Kd.R_far (p := ⟨gb626, 0, none⟩) (Kd.R_types HO_584004.out BK626.out (by decide)) (fun _ hk => hk.2) (.int .i64 t613)) (fun _ hk => hk.2) (.int .i64 t614)) (fun _ hk => hk.2) (.int .i64 t615)) (fun _ hk => hk.2) (.slice Ao84 t616.length co84)) (fun _ hk => hk.2) (.slice Ao85 t619.length co85)) (fun _ h_ => h_.1))) (Kd.R_base ho1) hb); replace HO590 := Aside0.mk (Kd.R_elder' (by (with_reducible repeat (first | apply Kd.R_alloc | apply Kd.R_drewN | apply Kd.R_drew)); exact (Kd.R_mono (Kd.R_far (p := ⟨gb626, 4, none⟩) (Kd.R_far (p := ⟨gb626, 3, none⟩) (Kd.R_far (p := ⟨gb626, 2, none⟩) (Kd.R_far (p := ⟨gb626, 1, none⟩) (Kd.R_far (p := ⟨gb626, 0, none⟩) (Kd.R_types HO590.out BK626.out (by decide)) (fun _ hk => hk.2) (.int .i64 t613)) (fun _ hk => hk.2) (.int .i64 t614)) (fun _ hk => hk.2) (.int .i64 t615)) (fun _ hk => hk.2) (.slice Ao84 t616.length co84)) (fun _ hk => hk.2) (.slice Ao85 t619.length co85)) (fun _ h_ => h_.1))) (Kd.R_base ho0) hb); replace HO593 := Aside0.mk (Kd.R_elder' (by (with_reducible repeat (first | apply Kd.R_alloc | apply Kd.R_drewN | apply Kd.R_drew)); exact (Kd.R_mono (Kd.R_far (p := ⟨gb626, 4, none⟩) (Kd.R_far (p := ⟨gb626, 3, none⟩) (Kd.R_far (p := ⟨gb626, 2, none⟩) (Kd.R_far (p := ⟨gb626, 1, none⟩) (Kd.R_far (p := ⟨gb626, 0, none⟩) (Kd.R_types HO593.out BK626.out (by decide)) (fun _ hk => hk.2) (.int .i64 t613)) (fun _ hk => hk.2) (.int .i64 t614)) (fun _ hk => hk.2) (.int .i64 t615)) (fun _ hk => hk.2) (.slice Ao84 t616.length co84)) (fun _ hk => hk.2) (.slice Ao85 t619.length co85)) (fun _ h_ => h_.1))) (Kd.R_base ho1) hb); replace HO596 := Aside0.mk (Kd.R_elder' (by (with_reducible repeat (first | apply Kd.R_alloc | apply Kd.R_drewN | apply Kd.R_drew)); exact (Kd.R_mono (Kd.R_far (p := ⟨gb626, 4, none⟩) (Kd.R_far (p := ⟨gb626, 3, none⟩) (Kd.R_far (p := ⟨gb626, 2, none⟩) (Kd.R_far (p := ⟨gb626, 1, none⟩) (Kd.R_far (p := ⟨gb626, 0, none⟩) (Kd.R_types HO596.out BK626.out (by decide)) (fun _ hk => hk.2) (.int .i64 t613)) (fun _ hk => hk.2) (.int .i64 t614)) (fun _ hk => hk.2) (.int .i64 t615)) (fun _ hk => hk.2) (.slice Ao84 t616.length co84)) (fun _ hk => hk.2) (.slice Ao85 t619.length co85)) (fun _ h_ => h_.1))) (Kd.R_base ho2) hb); replace HO604 := Aside0.mk (Kd.R_elder' (by (with_reducible repeat (first | apply Kd.R_alloc | apply Kd.R_drewN | apply Kd.R_drew)); exact (Kd.R_mono (Kd.R_far (p := ⟨gb626, 4, none⟩) (Kd.R_far (p := ⟨gb626, 3, none⟩) (Kd.R_far (p := ⟨gb626, 2, none⟩) (Kd.R_far (p := ⟨gb626, 1, none⟩) (Kd.R_far (p := ⟨gb626, 0, none⟩) (Kd.R_types HO604.out BK626.out (by decide)) (fun _ hk => hk.2) (.int .i64 t613)) (fun _ hk => hk.2) (.int .i64 t614)) (fun _ hk => hk.2) (.int .i64 t615)) (fun _ hk => hk.2) (.slice Ao84 t616.length co84)) (fun _ hk => hk.2) (.slice Ao85 t619.length co85)) (fun _ h_ => h_.1))) (Kd.R_base ho0) hb); replace HO607 := Aside0.mk (Kd.R_elder' (by (with_reducible repeat (first | apply Kd.R_alloc | apply Kd.R_drewN | apply Kd.R_drew)); exact (Kd.R_mono (Kd.R_far (p := ⟨gb626, 4, none⟩) (Kd.R_far (p := ⟨gb626, 3, none⟩) (Kd.R_far (p := ⟨gb626, 2, none⟩) (Kd.R_far (p := ⟨gb626, 1, none⟩) (Kd.R_far (p := ⟨gb626, 0, none⟩) (Kd.R_types HO607.out BK626.out (by decide)) (fun _ hk => hk.2) (.int .i64 t613)) (fun _ hk => hk.2) (.int .i64 t614)) (fun _ hk => hk.2) (.int .i64 t615)) (fun _ hk => hk.2) (.slice Ao84 t616.length co84)) (fun _ hk => hk.2) (.slice Ao85 t619.length co85)) (fun _ h_ => h_.1))) (Kd.R_base ho1) hb); replace HO610 := Aside0.mk (Kd.R_elder' (by (with_reducible repeat (first | apply Kd.R_alloc | apply Kd.R_drewN | apply Kd.R_drew)); exact (Kd.R_mono (Kd.R_far (p := ⟨gb626, 4, none⟩) (Kd.R_far (p := ⟨gb626, 3, none⟩) (Kd.R_far (p := ⟨gb626, 2, none⟩) (Kd.R_far (p := ⟨gb626, 1, none⟩) (Kd.R_far (p := ⟨gb626, 0, none⟩) (Kd.R_types HO610.out BK626.out (by decide)) (fun _ hk => hk.2) (.int .i64 t613)) (fun _ hk => hk.2) (.int .i64 t614)) (fun _ hk => hk.2) (.int .i64 t615)) (fun _ hk => hk.2) (.slice Ao84 t616.length co84)) (fun _ hk => hk.2) (.slice Ao85 t619.length co85)) (fun _ h_ => h_.1))) (Kd.R_base ho2) hb); replace HO618 := Aside0.mk (Kd.R_elder' (by (with_reducible repeat (first | apply Kd.R_alloc | apply Kd.R_drewN | apply Kd.R_drew)); exact (Kd.R_mono (Kd.R_far (p := ⟨gb626, 4, none⟩) (Kd.R_far (p := ⟨gb626, 3, none⟩) (Kd.R_far (p := ⟨gb626, 2, none⟩) (Kd.R_far (p := ⟨gb626, 1, none⟩) (Kd.R_far (p := ⟨gb626, 0, none⟩) (Kd.R_types HO618.out BK626.out (by decide)) (fun _ hk => hk.2) (.int .i64 t613)) (fun _ hk => hk.2) (.int .i64 t614)) (fun _ hk => hk.2) (.int .i64 t615)) (fun _ hk => hk.2) (.slice Ao84 t616.length co84)) (fun _ hk => hk.2) (.slice Ao85 t619.length co85)) (fun _ h_ => h_.1))) (Kd.R_base ho0) hb); replace HO621 := Aside0.mk (Kd.R_elder' (by (with_reducible repeat (first | apply Kd.R_alloc | apply Kd.R_drewN | apply Kd.R_drew)); exact (Kd.R_mono (Kd.R_far (p := ⟨gb626, 4, none⟩) (Kd.R_far (p := ⟨gb626, 3, none⟩) (Kd.R_far (p := ⟨gb626, 2, none⟩) (Kd.R_far (p := ⟨gb626, 1, none⟩) (Kd.R_far (p := ⟨gb626, 0, none⟩) (Kd.R_types HO621.out BK626.out (by decide)) (fun _ hk => hk.2) (.int .i64 t613)) (fun _ hk => hk.2) (.int .i64 t614)) (fun _ hk => hk.2) (.int .i64 t615)) (fun _ hk => hk.2) (.slice Ao84 t616.length co84)) (fun _ hk => hk.2) (.slice Ao85 t619.length co85)) (fun _ h_ => h_.1))) (Kd.R_base ho1) hb); replace HO624 := Aside0.mk (Kd.R_elder' (by (with_reducible repeat (first | apply Kd.R_alloc | apply Kd.R_drewN | apply Kd.R_drew)); exact (Kd.R_mono (Kd.R_far (p := ⟨gb626, 4, none⟩) (Kd.R_far (p := ⟨gb626, 3, none⟩) (Kd.R_far (p := ⟨gb626, 2, none⟩) (Kd.R_far (p := ⟨gb626, 1, none⟩) (Kd.R_far (p := ⟨gb626, 0, none⟩) (Kd.R_types HO624.out BK626.out (by decide)) (fun _ hk => hk.2) (.int .i64 t613)) (fun _ hk => hk.2) (.int .i64 t614)) (fun _ hk => hk.2) (.int .i64 t615)) (fun _ hk => hk.2) (.slice Ao84 t616.length co84)) (fun _ hk => hk.2) (.slice Ao85 t619.length co85)) (fun _ h_ => h_.1))) (Kd.R_base ho2) hb); replace BK572 := Aside0.mk (blk_below (g := gb572) (o := .cells #[.int .u8 a0_0, .int .u8 a0_1] 22 (0, 0)) (by (with_reducible repeat (first | refine blk_drewN ?_ _ | refine blk_drew ?_ | refine blk_alloc ?_ _)); refine blk_far ?_ NB572_626.out _; (with_reducible repeat (first | refine blk_drewN ?_ _ | refine blk_drew ?_ | refine blk_alloc ?_ _)); refine blk_far ?_ NB572_626.out _; (with_reducible repeat (first | refine blk_drewN ?_ _ | refine blk_drew ?_ | refine blk_alloc ?_ _)); refine blk_far ?_ NB572_626.out _; (with_reducible repeat (first | refine blk_drewN ?_ _ | refine blk_drew ?_ | refine blk_alloc ?_ _)); refine blk_far ?_ NB572_626.out _; (with_reducible repeat (first | refine blk_drewN ?_ _ | refine blk_drew ?_ | refine blk_alloc ?_ _)); refine blk_far ?_ NB572_626.out _; (with_reducible repeat (first | refine blk_drewN ?_ _ | refine blk_drew ?_ | refine blk_alloc ?_ _)); exact BK572.out) hb); replace BK573 := Aside0.mk (blk_below (g := gb573) (o := .cells #[.int .i64 a3_0, .int .i64 a3_1, .int .i64 a3_2, .int .i64 a3_3] 47 (0, 0)) (by (with_reducible repeat (first | refine blk_drewN ?_ _ | refine blk_drew ?_ | refine blk_alloc ?_ _)); refine blk_far ?_ NB573_626.out _; (with_reducible repeat (first | refine blk_drewN ?_ _ | refine blk_drew ?_ | refine blk_alloc ?_ _)); refine blk_far ?_ NB573_626.out _; (with_reducible repeat (first | refine blk_drewN ?_ _ | refine blk_drew ?_ | refine blk_alloc ?_ _)); refine blk_far ?_ NB573_626.out _; (with_reducible repeat (first | refine blk_drewN ?_ _ | refine blk_drew ?_ | refine blk_alloc ?_ _)); refine blk_far ?_ NB573_626.out _; (with_reducible repeat (first | refine blk_drewN ?_ _ | refine blk_drew ?_ | refine blk_alloc ?_ _)); refine blk_far ?_ NB573_626.out _; (with_reducible repeat (first | refine blk_drewN ?_ _ | refine blk_drew ?_ | refine blk_alloc ?_ _)); exact BK573.out) hb); replace BK583 := Aside0.mk (blk_below (g := gb583) (o := .cells #[.int .i64 t574, .int .i64 t575, .int .i64 t576, .slice Ao21 t577.length co21, .slice Ao22 t580.length co22] 30 (0, 0)) (by (with_reducible repeat (first | refine blk_drewN ?_ _ | refine blk_drew ?_ | refine blk_alloc ?_ _)); refine blk_far ?_ NB583_626.out _; (with_reducible repeat (first | refine blk_drewN ?_ _ | refine blk_drew ?_ | refine blk_alloc ?_ _)); refine blk_far ?_ NB583_626.out _; (with_reducible repeat (first | refine blk_drewN ?_ _ | refine blk_drew ?_ | refine blk_alloc ?_ _)); refine blk_far ?_ NB583_626.out _; (with_reducible repeat (first | refine blk_drewN ?_ _ | refine blk_drew ?_ | refine blk_alloc ?_ _)); refine blk_far ?_ NB583_626.out _; (with_reducible repeat (first | refine blk_drewN ?_ _ | refine blk_drew ?_ | refine blk_alloc ?_ _)); refine blk_far ?_ NB583_626.out _; (with_reducible repeat (first | refine blk_drewN ?_ _ | refine blk_drew ?_ | refine blk_alloc ?_ _)); exact BK583.out) hb); replace BK584 := Aside0.mk (blk_below (g := gb584) (o := .cells #[.int .i64 (wrap64 (Int.tmod a4 8)), .int .i64 x585001_10, .int .i64 (wrap64 ((wrap64 (Int.tmod a5 5)) - ((Int.tdiv a5 250) % 256))), .int .i64 (wrap64 ((wrap64 (Int.tmod a6 6)) - 1))] 47 (0, 0)) (by (with_reducible repeat (first | refine blk_drewN ?_ _ | refine blk_drew ?_ | refine blk_alloc ?_ _)); refine blk_far ?_ NB584_626.out _; (with_reducible repeat (first | refine blk_drewN ?_ _ | refine blk_drew ?_ | refine blk_alloc ?_ _)); refine blk_far ?_ NB584_626.out _; (with_reducible repeat (first | refine blk_drewN ?_ _ | refine blk_drew ?_ | refine blk_alloc ?_ _)); refine blk_far ?_ NB584_626.out _; (with_reducible repeat (first | refine blk_drewN ?_ _ | refine blk_drew ?_ | refine blk_alloc ?_ _)); refine blk_far ?_ NB584_626.out _; (with_reducible repeat (first | refine blk_drewN ?_ _ | refine blk_drew ?_ | refine blk_alloc ?_ _)); refine blk_far ?_ NB584_626.out _; (with_reducible repeat (first | refine blk_drewN ?_ _ | refine blk_drew ?_ | refine blk_alloc ?_ _)); exact BK584.out) hb); replace BK598 := Aside0.mk (blk_below (g := gb598) (o := .cells #[.int .i64 t585, .int .i64 t586, .int .i64 t587, .slice Ao58 t588.length co58, .slice Ao59 t591.length co59] 30 (0, 0)) (by (with_reducible repeat (first | refine blk_drewN ?_ _ | refine blk_drew ?_ | refine blk_alloc ?_ _)); refine blk_far ?_ NB598_626.out _; (with_reducible repeat (first | refine blk_drewN ?_ _ | refine blk_drew ?_ | refine blk_alloc ?_ _)); refine blk_far ?_ NB598_626.out _; (with_reducible repeat (first | refine blk_drewN ?_ _ | refine blk_drew ?_ | refine blk_alloc ?_ _)); refine blk_far ?_ NB598_626.out _; (with_reducible repeat (first | refine blk_drewN ?_ _ | refine blk_drew ?_ | refine blk_alloc ?_ _)); refine blk_far ?_ NB598_626.out _; (with_reducible repeat (first | refine blk_drewN ?_ _ | refine blk_drew ?_ | refine blk_alloc ?_ _)); refine blk_far ?_ NB598_626.out _; (with_reducible repeat (first | refine blk_drewN ?_ _ | refine blk_drew ?_ | refine blk_alloc ?_ _)); exact BK598.out) hb); replace BK612 := Aside0.mk (blk_below (g := gb612) (o := .cells #[.int .i64 t599, .int .i64 t600, .int .i64 t601, .slice Ao70 t602.length co70, .slice Ao71 t605.length co71] 30 (0, 0)) (by (with_reducible repeat (first | refine blk_drewN ?_ _ | refine blk_drew ?_ | refine blk_alloc ?_ _)); refine blk_far ?_ NB612_626.out _; (with_reducible repeat (first | refine blk_drewN ?_ _ | refine blk_drew ?_ | refine blk_alloc ?_ _)); refine blk_far ?_ NB612_626.out _; (with_reducible repeat (first | refine blk_drewN ?_ _ | refine blk_drew ?_ | refine blk_alloc ?_ _)); refine blk_far ?_ NB612_626.out _; (with_reducible repeat (first | refine blk_drewN ?_ _ | refine blk_drew ?_ | refine blk_alloc ?_ _)); refine blk_far ?_ NB612_626.out _; (with_reducible repeat (first | refine blk_drewN ?_ _ | refine blk_drew ?_ | refine blk_alloc ?_ _)); refine blk_far ?_ NB612_626.out _; (with_reducible repeat (first | refine blk_drewN ?_ _ | refine blk_drew ?_ | refine blk_alloc ?_ _)); exact BK612.out) hb); replace BK626 := Aside0.mk (blk_below (g := gb626) (o := .cells #[.int .i64 t613, .int .i64 t614, .int .i64 t615, .slice Ao84 t616.length co84, .slice Ao85 t619.length co85] 30 (0, 0)) (by (with_reducible repeat (first | refine blk_drewN ?_ _ | refine blk_drew ?_ | refine blk_alloc ?_ _)); refine blk_put (cs := #[.int .i64 t613, .int .i64 t614, .int .i64 t615, .slice Ao84 t616.length co84, .slice none 0 0]) ?_ 4 _ rfl; (with_reducible repeat (first | refine blk_drewN ?_ _ | refine blk_drew ?_ | refine blk_alloc ?_ _)); refine blk_put (cs := #[.int .i64 t613, .int .i64 t614, .int .i64 t615, .slice none 0 0, .slice none 0 0]) ?_ 3 _ rfl; (with_reducible repeat (first | refine blk_drewN ?_ _ | refine blk_drew ?_ | refine blk_alloc ?_ _)); refine blk_put (cs := #[.int .i64 t613, .int .i64 t614, .int .i64 0, .slice none 0 0, .slice none 0 0]) ?_ 2 _ rfl; (with_reducible repeat (first | refine blk_drewN ?_ _ | refine blk_drew ?_ | refine blk_alloc ?_ _)); refine blk_put (cs := #[.int .i64 t613, .int .i64 0, .int .i64 0, .slice none 0 0, .slice none 0 0]) ?_ 1 _ rfl; (with_reducible repeat (first | refine blk_drewN ?_ _ | refine blk_drew ?_ | refine blk_alloc ?_ _)); refine blk_put (cs := #[.int .i64 0, .int .i64 0, .int .i64 0, .slice none 0 0, .slice none 0 0]) ?_ 0 _ rfl; (with_reducible repeat (first | refine blk_drewN ?_ _ | refine blk_drew ?_ | refine blk_alloc ?_ _)); exact BK626.out) hb); replace HB := Aside0.mk (below_step (pB HB) hb); (try clear hb); (try clear ho0); (try clear ho1); (try clear ho2)) | ((with_reducible refine gate_dst (N := 30) rfl ?_); refine boxE (N := 30) #[.int .i64 0, .int .i64 0, .int .i64 0, .slice none 0 0, .slice none 0 0] 30 ?_; intro gb640 hg w89 hbox hb; have BK640 := Aside0.mk (hbox); have GW640 := gS HB hg; have GE640 := gS HB hg; have NB572_640 := nL BK572 hg; have NB640_572 := nG BK572 hg; have NB573_640 := nL BK573 hg; have NB640_573 := nG BK573 hg; have NB583_640 := nL BK583 hg; have NB640_583 := nG BK583 hg; have NB584_640 := nL BK584 hg; have NB640_584 := nG BK584 hg; have NB598_640 := nL BK598 hg; have NB640_598 := nG BK598 hg; have NB612_640 := nL BK612 hg; have NB640_612 := nG BK612 hg; have NB626_640 := nL BK626 hg; have NB640_626 := nG BK626 hg; replace HO_584003 := rB HO_584003 hb; replace HO_584004 := rB HO_584004 hb; replace HO590 := rB HO590 hb; replace HO593 := rB HO593 hb; replace HO596 := rB HO596 hb; replace HO604 := rB HO604 hb; replace HO607 := rB HO607 hb; replace HO610 := rB HO610 hb; replace HO618 := rB HO618 hb; replace HO621 := rB HO621 hb; replace HO624 := rB HO624 hb; replace HO632 := rB HO632 hb; replace HO635 := rB HO635 hb; replace HO638 := rB HO638 hb; replace BK572 := bB BK572 hb; replace BK573 := bB BK573 hb; replace BK583 := bB BK583 hb; replace BK584 := bB BK584 hb; replace BK598 := bB BK598 hb; replace BK612 := bB BK612 hb; replace BK626 := bB BK626 hb; replace HB := Aside0.mk (below_step (pB HB) hb); clear hb hbox hg; have hnb90 := NB640_572.out; have hnc90 := NB572_640.out; have hnb91 := NB640_573.out; have hnc91 := NB573_640.out; have hnb92 := NB640_583.out; have hnc92 := NB583_640.out; have hnb93 := NB640_584.out; have hnc93 := NB584_640.out; have hnb94 := NB640_598.out; have hnc94 := NB598_640.out; have hnb95 := NB640_612.out; have hnc95 := NB612_640.out; have hnb96 := NB640_626.out; have hnc96 := NB626_640.out; obtain ⟨hcz97_0, hcz97_1, hcz97_2, hcz97_3, hcz97_4⟩ := cells5 BK640; obtain ⟨hfz97_0, hfz97_1, hfz97_2, hfz97_3, hfz97_4⟩ := frz5 BK640; obtain ⟨Ao98, co98, eo98⟩ := Kd.R_slice HO632.out; subst eo98; obtain ⟨Ao99, co99, eo99⟩ := Kd.R_slice HO635.out; subst eo99) | ((with_reducible refine gate_callee (f := 14) rfl ?_); refine goesL_ (some 92) rfl rfl Try.func14 (by kernel_rfl) rfl #[] rfl (by (try simp only [List.map_toArray, List.map_cons, List.map_nil]); first | done | rfl | (simp only [List.length_drop, List.length_take]; rfl)) ?_; (with_reducible refine (insolvencylaw33_awake.calls kj10  true _ A37.out).mono ?_); rintro e w100 ⟨rfl, hb⟩; refine ⟨_, rfl, ?_⟩; replace HO_584003 := Aside0.mk (Kd.R_below (by (with_reducible repeat (first | apply Kd.R_alloc | apply Kd.R_drewN | apply Kd.R_drew)); exact (Kd.R_mono (Kd.R_far (p := ⟨gb640, 4, none⟩) (Kd.R_far (p := ⟨gb640, 3, none⟩) (Kd.R_far (p := ⟨gb640, 2, none⟩) (Kd.R_far (p := ⟨gb640, 1, none⟩) (Kd.R_far (p := ⟨gb640, 0, none⟩) (Kd.R_types HO_584003.out BK640.out (by decide)) (fun _ hk => hk.2) (.int .i64 t627)) (fun _ hk => hk.2) (.int .i64 t628)) (fun _ hk => hk.2) (.int .i64 t629)) (fun _ hk => hk.2) (.slice Ao98 t630.length co98)) (fun _ hk => hk.2) (.slice Ao99 t633.length co99)) (fun _ h_ => h_.1))) hb); replace HO_584004 := Aside0.mk (Kd.R_below (by (with_reducible repeat (first | apply Kd.R_alloc | apply Kd.R_drewN | apply Kd.R_drew)); exact (Kd.R_mono (Kd.R_far (p := ⟨gb640, 4, none⟩) (Kd.R_far (p := ⟨gb640, 3, none⟩) (Kd.R_far (p := ⟨gb640, 2, none⟩) (Kd.R_far (p := ⟨gb640, 1, none⟩) (Kd.R_far (p := ⟨gb640, 0, none⟩) (Kd.R_types HO_584004.out BK640.out (by decide)) (fun _ hk => hk.2) (.int .i64 t627)) (fun _ hk => hk.2) (.int .i64 t628)) (fun _ hk => hk.2) (.int .i64 t629)) (fun _ hk => hk.2) (.slice Ao98 t630.length co98)) (fun _ hk => hk.2) (.slice Ao99 t633.length co99)) (fun _ h_ => h_.1))) hb); replace HO590 := Aside0.mk (Kd.R_below (by (with_reducible repeat (first | apply Kd.R_alloc | apply Kd.R_drewN | apply Kd.R_drew)); exact (Kd.R_mono (Kd.R_far (p := ⟨gb640, 4, none⟩) (Kd.R_far (p := ⟨gb640, 3, none⟩) (Kd.R_far (p := ⟨gb640, 2, none⟩) (Kd.R_far (p := ⟨gb640, 1, none⟩) (Kd.R_far (p := ⟨gb640, 0, none⟩) (Kd.R_types HO590.out BK640.out (by decide)) (fun _ hk => hk.2) (.int .i64 t627)) (fun _ hk => hk.2) (.int .i64 t628)) (fun _ hk => hk.2) (.int .i64 t629)) (fun _ hk => hk.2) (.slice Ao98 t630.length co98)) (fun _ hk => hk.2) (.slice Ao99 t633.length co99)) (fun _ h_ => h_.1))) hb); replace HO593 := Aside0.mk (Kd.R_below (by (with_reducible repeat (first | apply Kd.R_alloc | apply Kd.R_drewN | apply Kd.R_drew)); exact (Kd.R_mono (Kd.R_far (p := ⟨gb640, 4, none⟩) (Kd.R_far (p := ⟨gb640, 3, none⟩) (Kd.R_far (p := ⟨gb640, 2, none⟩) (Kd.R_far (p := ⟨gb640, 1, none⟩) (Kd.R_far (p := ⟨gb640, 0, none⟩) (Kd.R_types HO593.out BK640.out (by decide)) (fun _ hk => hk.2) (.int .i64 t627)) (fun _ hk => hk.2) (.int .i64 t628)) (fun _ hk => hk.2) (.int .i64 t629)) (fun _ hk => hk.2) (.slice Ao98 t630.length co98)) (fun _ hk => hk.2) (.slice Ao99 t633.length co99)) (fun _ h_ => h_.1))) hb); replace HO596 := Aside0.mk (Kd.R_below (by (with_reducible repeat (first | apply Kd.R_alloc | apply Kd.R_drewN | apply Kd.R_drew)); exact (Kd.R_mono (Kd.R_far (p := ⟨gb640, 4, none⟩) (Kd.R_far (p := ⟨gb640, 3, none⟩) (Kd.R_far (p := ⟨gb640, 2, none⟩) (Kd.R_far (p := ⟨gb640, 1, none⟩) (Kd.R_far (p := ⟨gb640, 0, none⟩) (Kd.R_types HO596.out BK640.out (by decide)) (fun _ hk => hk.2) (.int .i64 t627)) (fun _ hk => hk.2) (.int .i64 t628)) (fun _ hk => hk.2) (.int .i64 t629)) (fun _ hk => hk.2) (.slice Ao98 t630.length co98)) (fun _ hk => hk.2) (.slice Ao99 t633.length co99)) (fun _ h_ => h_.1))) hb); replace HO604 := Aside0.mk (Kd.R_below (by (with_reducible repeat (first | apply Kd.R_alloc | apply Kd.R_drewN | apply Kd.R_drew)); exact (Kd.R_mono (Kd.R_far (p := ⟨gb640, 4, none⟩) (Kd.R_far (p := ⟨gb640, 3, none⟩) (Kd.R_far (p := ⟨gb640, 2, none⟩) (Kd.R_far (p := ⟨gb640, 1, none⟩) (Kd.R_far (p := ⟨gb640, 0, none⟩) (Kd.R_types HO604.out BK640.out (by decide)) (fun _ hk => hk.2) (.int .i64 t627)) (fun _ hk => hk.2) (.int .i64 t628)) (fun _ hk => hk.2) (.int .i64 t629)) (fun _ hk => hk.2) (.slice Ao98 t630.length co98)) (fun _ hk => hk.2) (.slice Ao99 t633.length co99)) (fun _ h_ => h_.1))) hb); replace HO607 := Aside0.mk (Kd.R_below (by (with_reducible repeat (first | apply Kd.R_alloc | apply Kd.R_drewN | apply Kd.R_drew)); exact (Kd.R_mono (Kd.R_far (p := ⟨gb640, 4, none⟩) (Kd.R_far (p := ⟨gb640, 3, none⟩) (Kd.R_far (p := ⟨gb640, 2, none⟩) (Kd.R_far (p := ⟨gb640, 1, none⟩) (Kd.R_far (p := ⟨gb640, 0, none⟩) (Kd.R_types HO607.out BK640.out (by decide)) (fun _ hk => hk.2) (.int .i64 t627)) (fun _ hk => hk.2) (.int .i64 t628)) (fun _ hk => hk.2) (.int .i64 t629)) (fun _ hk => hk.2) (.slice Ao98 t630.length co98)) (fun _ hk => hk.2) (.slice Ao99 t633.length co99)) (fun _ h_ => h_.1))) hb); replace HO610 := Aside0.mk (Kd.R_below (by (with_reducible repeat (first | apply Kd.R_alloc | apply Kd.R_drewN | apply Kd.R_drew)); exact (Kd.R_mono (Kd.R_far (p := ⟨gb640, 4, none⟩) (Kd.R_far (p := ⟨gb640, 3, none⟩) (Kd.R_far (p := ⟨gb640, 2, none⟩) (Kd.R_far (p := ⟨gb640, 1, none⟩) (Kd.R_far (p := ⟨gb640, 0, none⟩) (Kd.R_types HO610.out BK640.out (by decide)) (fun _ hk => hk.2) (.int .i64 t627)) (fun _ hk => hk.2) (.int .i64 t628)) (fun _ hk => hk.2) (.int .i64 t629)) (fun _ hk => hk.2) (.slice Ao98 t630.length co98)) (fun _ hk => hk.2) (.slice Ao99 t633.length co99)) (fun _ h_ => h_.1))) hb); replace HO618 := Aside0.mk (Kd.R_below (by (with_reducible repeat (first | apply Kd.R_alloc | apply Kd.R_drewN | apply Kd.R_drew)); exact (Kd.R_mono (Kd.R_far (p := ⟨gb640, 4, none⟩) (Kd.R_far (p := ⟨gb640, 3, none⟩) (Kd.R_far (p := ⟨gb640, 2, none⟩) (Kd.R_far (p := ⟨gb640, 1, none⟩) (Kd.R_far (p := ⟨gb640, 0, none⟩) (Kd.R_types HO618.out BK640.out (by decide)) (fun _ hk => hk.2) (.int .i64 t627)) (fun _ hk => hk.2) (.int .i64 t628)) (fun _ hk => hk.2) (.int .i64 t629)) (fun _ hk => hk.2) (.slice Ao98 t630.length co98)) (fun _ hk => hk.2) (.slice Ao99 t633.length co99)) (fun _ h_ => h_.1))) hb); replace HO621 := Aside0.mk (Kd.R_below (by (with_reducible repeat (first | apply Kd.R_alloc | apply Kd.R_drewN | apply Kd.R_drew)); exact (Kd.R_mono (Kd.R_far (p := ⟨gb640, 4, none⟩) (Kd.R_far (p := ⟨gb640, 3, none⟩) (Kd.R_far (p := ⟨gb640, 2, none⟩) (Kd.R_far (p := ⟨gb640, 1, none⟩) (Kd.R_far (p := ⟨gb640, 0, none⟩) (Kd.R_types HO621.out BK640.out (by decide)) (fun _ hk => hk.2) (.int .i64 t627)) (fun _ hk => hk.2) (.int .i64 t628)) (fun _ hk => hk.2) (.int .i64 t629)) (fun _ hk => hk.2) (.slice Ao98 t630.length co98)) (fun _ hk => hk.2) (.slice Ao99 t633.length co99)) (fun _ h_ => h_.1))) hb); replace HO624 := Aside0.mk (Kd.R_below (by (with_reducible repeat (first | apply Kd.R_alloc | apply Kd.R_drewN | apply Kd.R_drew)); exact (Kd.R_mono (Kd.R_far (p := ⟨gb640, 4, none⟩) (Kd.R_far (p := ⟨gb640, 3, none⟩) (Kd.R_far (p := ⟨gb640, 2, none⟩) (Kd.R_far (p := ⟨gb640, 1, none⟩) (Kd.R_far (p := ⟨gb640, 0, none⟩) (Kd.R_types HO624.out BK640.out (by decide)) (fun _ hk => hk.2) (.int .i64 t627)) (fun _ hk => hk.2) (.int .i64 t628)) (fun _ hk => hk.2) (.int .i64 t629)) (fun _ hk => hk.2) (.slice Ao98 t630.length co98)) (fun _ hk => hk.2) (.slice Ao99 t633.length co99)) (fun _ h_ => h_.1))) hb); replace HO632 := Aside0.mk (Kd.R_below (by (with_reducible repeat (first | apply Kd.R_alloc | apply Kd.R_drewN | apply Kd.R_drew)); exact (Kd.R_mono (Kd.R_far (p := ⟨gb640, 4, none⟩) (Kd.R_far (p := ⟨gb640, 3, none⟩) (Kd.R_far (p := ⟨gb640, 2, none⟩) (Kd.R_far (p := ⟨gb640, 1, none⟩) (Kd.R_far (p := ⟨gb640, 0, none⟩) (Kd.R_types HO632.out BK640.out (by decide)) (fun _ hk => hk.2) (.int .i64 t627)) (fun _ hk => hk.2) (.int .i64 t628)) (fun _ hk => hk.2) (.int .i64 t629)) (fun _ hk => hk.2) (.slice Ao98 t630.length co98)) (fun _ hk => hk.2) (.slice Ao99 t633.length co99)) (fun _ h_ => h_.1))) hb); replace HO635 := Aside0.mk (Kd.R_below (by (with_reducible repeat (first | apply Kd.R_alloc | apply Kd.R_drewN | apply Kd.R_drew)); exact (Kd.R_mono (Kd.R_far (p := ⟨gb640, 4, none⟩) (Kd.R_far (p := ⟨gb640, 3, none⟩) (Kd.R_far (p := ⟨gb640, 2, none⟩) (Kd.R_far (p := ⟨gb640, 1, none⟩) (Kd.R_far (p := ⟨gb640, 0, none⟩) (Kd.R_types HO635.out BK640.out (by decide)) (fun _ hk => hk.2) (.int .i64 t627)) (fun _ hk => hk.2) (.int .i64 t628)) (fun _ hk => hk.2) (.int .i64 t629)) (fun _ hk => hk.2) (.slice Ao98 t630.length co98)) (fun _ hk => hk.2) (.slice Ao99 t633.length co99)) (fun _ h_ => h_.1))) hb); replace HO638 := Aside0.mk (Kd.R_below (by (with_reducible repeat (first | apply Kd.R_alloc | apply Kd.R_drewN | apply Kd.R_drew)); exact (Kd.R_mono (Kd.R_far (p := ⟨gb640, 4, none⟩) (Kd.R_far (p := ⟨gb640, 3, none⟩) (Kd.R_far (p := ⟨gb640, 2, none⟩) (Kd.R_far (p := ⟨gb640, 1, none⟩) (Kd.R_far (p := ⟨gb640, 0, none⟩) (Kd.R_types HO638.out BK640.out (by decide)) (fun _ hk => hk.2) (.int .i64 t627)) (fun _ hk => hk.2) (.int .i64 t628)) (fun _ hk => hk.2) (.int .i64 t629)) (fun _ hk => hk.2) (.slice Ao98 t630.length co98)) (fun _ hk => hk.2) (.slice Ao99 t633.length co99)) (fun _ h_ => h_.1))) hb); replace BK572 := Aside0.mk (blk_below (g := gb572) (o := .cells #[.int .u8 a0_0, .int .u8 a0_1] 22 (0, 0)) (by (with_reducible repeat (first | refine blk_drewN ?_ _ | refine blk_drew ?_ | refine blk_alloc ?_ _)); refine blk_far ?_ NB572_640.out _; (with_reducible repeat (first | refine blk_drewN ?_ _ | refine blk_drew ?_ | refine blk_alloc ?_ _)); refine blk_far ?_ NB572_640.out _; (with_reducible repeat (first | refine blk_drewN ?_ _ | refine blk_drew ?_ | refine blk_alloc ?_ _)); refine blk_far ?_ NB572_640.out _; (with_reducible repeat (first | refine blk_drewN ?_ _ | refine blk_drew ?_ | refine blk_alloc ?_ _)); refine blk_far ?_ NB572_640.out _; (with_reducible repeat (first | refine blk_drewN ?_ _ | refine blk_drew ?_ | refine blk_alloc ?_ _)); refine blk_far ?_ NB572_640.out _; (with_reducible repeat (first | refine blk_drewN ?_ _ | refine blk_drew ?_ | refine blk_alloc ?_ _)); exact BK572.out) hb); replace BK573 := Aside0.mk (blk_below (g := gb573) (o := .cells #[.int .i64 a3_0, .int .i64 a3_1, .int .i64 a3_2, .int .i64 a3_3] 47 (0, 0)) (by (with_reducible repeat (first | refine blk_drewN ?_ _ | refine blk_drew ?_ | refine blk_alloc ?_ _)); refine blk_far ?_ NB573_640.out _; (with_reducible repeat (first | refine blk_drewN ?_ _ | refine blk_drew ?_ | refine blk_alloc ?_ _)); refine blk_far ?_ NB573_640.out _; (with_reducible repeat (first | refine blk_drewN ?_ _ | refine blk_drew ?_ | refine blk_alloc ?_ _)); refine blk_far ?_ NB573_640.out _; (with_reducible repeat (first | refine blk_drewN ?_ _ | refine blk_drew ?_ | refine blk_alloc ?_ _)); refine blk_far ?_ NB573_640.out _; (with_reducible repeat (first | refine blk_drewN ?_ _ | refine blk_drew ?_ | refine blk_alloc ?_ _)); refine blk_far ?_ NB573_640.out _; (with_reducible repeat (first | refine blk_drewN ?_ _ | refine blk_drew ?_ | refine blk_alloc ?_ _)); exact BK573.out) hb); replace BK583 := Aside0.mk (blk_below (g := gb583) (o := .cells #[.int .i64 t574, .int .i64 t575, .int .i64 t576, .slice Ao21 t577.length co21, .slice Ao22 t580.length co22] 30 (0, 0)) (by (with_reducible repeat (first | refine blk_drewN ?_ _ | refine blk_drew ?_ | refine blk_alloc ?_ _)); refine blk_far ?_ NB583_640.out _; (with_reducible repeat (first | refine blk_drewN ?_ _ | refine blk_drew ?_ | refine blk_alloc ?_ _)); refine blk_far ?_ NB583_640.out _; (with_reducible repeat (first | refine blk_drewN ?_ _ | refine blk_drew ?_ | refine blk_alloc ?_ _)); refine blk_far ?_ NB583_640.out _; (with_reducible repeat (first | refine blk_drewN ?_ _ | refine blk_drew ?_ | refine blk_alloc ?_ _)); refine blk_far ?_ NB583_640.out _; (with_reducible repeat (first | refine blk_drewN ?_ _ | refine blk_drew ?_ | refine blk_alloc ?_ _)); refine blk_far ?_ NB583_640.out _; (with_reducible repeat (first | refine blk_drewN ?_ _ | refine blk_drew ?_ | refine blk_alloc ?_ _)); exact BK583.out) hb); replace BK584 := Aside0.mk (blk_below (g := gb584) (o := .cells #[.int .i64 (wrap64 (Int.tmod a4 8)), .int .i64 x585001_10, .int .i64 (wrap64 ((wrap64 (Int.tmod a5 5)) - ((Int.tdiv a5 250) % 256))), .int .i64 (wrap64 ((wrap64 (Int.tmod a6 6)) - 1))] 47 (0, 0)) (by (with_reducible repeat (first | refine blk_drewN ?_ _ | refine blk_drew ?_ | refine blk_alloc ?_ _)); refine blk_far ?_ NB584_640.out _; (with_reducible repeat (first | refine blk_drewN ?_ _ | refine blk_drew ?_ | refine blk_alloc ?_ _)); refine blk_far ?_ NB584_640.out _; (with_reducible repeat (first | refine blk_drewN ?_ _ | refine blk_drew ?_ | refine blk_alloc ?_ _)); refine blk_far ?_ NB584_640.out _; (with_reducible repeat (first | refine blk_drewN ?_ _ | refine blk_drew ?_ | refine blk_alloc ?_ _)); refine blk_far ?_ NB584_640.out _; (with_reducible repeat (first | refine blk_drewN ?_ _ | refine blk_drew ?_ | refine blk_alloc ?_ _)); refine blk_far ?_ NB584_640.out _; (with_reducible repeat (first | refine blk_drewN ?_ _ | refine blk_drew ?_ | refine blk_alloc ?_ _)); exact BK584.out) hb); replace BK598 := Aside0.mk (blk_below (g := gb598) (o := .cells #[.int .i64 t585, .int .i64 t586, .int .i64 t587, .slice Ao58 t588.length co58, .slice Ao59 t591.length co59] 30 (0, 0)) (by (with_reducible repeat (first | refine blk_drewN ?_ _ | refine blk_drew ?_ | refine blk_alloc ?_ _)); refine blk_far ?_ NB598_640.out _; (with_reducible repeat (first | refine blk_drewN ?_ _ | refine blk_drew ?_ | refine blk_alloc ?_ _)); refine blk_far ?_ NB598_640.out _; (with_reducible repeat (first | refine blk_drewN ?_ _ | refine blk_drew ?_ | refine blk_alloc ?_ _)); refine blk_far ?_ NB598_640.out _; (with_reducible repeat (first | refine blk_drewN ?_ _ | refine blk_drew ?_ | refine blk_alloc ?_ _)); refine blk_far ?_ NB598_640.out _; (with_reducible repeat (first | refine blk_drewN ?_ _ | refine blk_drew ?_ | refine blk_alloc ?_ _)); refine blk_far ?_ NB598_640.out _; (with_reducible repeat (first | refine blk_drewN ?_ _ | refine blk_drew ?_ | refine blk_alloc ?_ _)); exact BK598.out) hb); replace BK612 := Aside0.mk (blk_below (g := gb612) (o := .cells #[.int .i64 t599, .int .i64 t600, .int .i64 t601, .slice Ao70 t602.length co70, .slice Ao71 t605.length co71] 30 (0, 0)) (by (with_reducible repeat (first | refine blk_drewN ?_ _ | refine blk_drew ?_ | refine blk_alloc ?_ _)); refine blk_far ?_ NB612_640.out _; (with_reducible repeat (first | refine blk_drewN ?_ _ | refine blk_drew ?_ | refine blk_alloc ?_ _)); refine blk_far ?_ NB612_640.out _; (with_reducible repeat (first | refine blk_drewN ?_ _ | refine blk_drew ?_ | refine blk_alloc ?_ _)); refine blk_far ?_ NB612_640.out _; (with_reducible repeat (first | refine blk_drewN ?_ _ | refine blk_drew ?_ | refine blk_alloc ?_ _)); refine blk_far ?_ NB612_640.out _; (with_reducible repeat (first | refine blk_drewN ?_ _ | refine blk_drew ?_ | refine blk_alloc ?_ _)); refine blk_far ?_ NB612_640.out _; (with_reducible repeat (first | refine blk_drewN ?_ _ | refine blk_drew ?_ | refine blk_alloc ?_ _)); exact BK612.out) hb); replace BK626 := Aside0.mk (blk_below (g := gb626) (o := .cells #[.int .i64 t613, .int .i64 t614, .int .i64 t615, .slice Ao84 t616.length co84, .slice Ao85 t619.length co85] 30 (0, 0)) (by (with_reducible repeat (first | refine blk_drewN ?_ _ | refine blk_drew ?_ | refine blk_alloc ?_ _)); refine blk_far ?_ NB626_640.out _; (with_reducible repeat (first | refine blk_drewN ?_ _ | refine blk_drew ?_ | refine blk_alloc ?_ _)); refine blk_far ?_ NB626_640.out _; (with_reducible repeat (first | refine blk_drewN ?_ _ | refine blk_drew ?_ | refine blk_alloc ?_ _)); refine blk_far ?_ NB626_640.out _; (with_reducible repeat (first | refine blk_drewN ?_ _ | refine blk_drew ?_ | refine blk_alloc ?_ _)); refine blk_far ?_ NB626_640.out _; (with_reducible repeat (first | refine blk_drewN ?_ _ | refine blk_drew ?_ | refine blk_alloc ?_ _)); refine blk_far ?_ NB626_640.out _; (with_reducible repeat (first | refine blk_drewN ?_ _ | refine blk_drew ?_ | refine blk_alloc ?_ _)); exact BK626.out) hb); replace BK640 := Aside0.mk (blk_below (g := gb640) (o := .cells #[.int .i64 t627, .int .i64 t628, .int .i64 t629, .slice Ao98 t630.length co98, .slice Ao99 t633.length co99] 30 (0, 0)) (by (with_reducible repeat (first | refine blk_drewN ?_ _ | refine blk_drew ?_ | refine blk_alloc ?_ _)); refine blk_put (cs := #[.int .i64 t627, .int .i64 t628, .int .i64 t629, .slice Ao98 t630.length co98, .slice none 0 0]) ?_ 4 _ rfl; (with_reducible repeat (first | refine blk_drewN ?_ _ | refine blk_drew ?_ | refine blk_alloc ?_ _)); refine blk_put (cs := #[.int .i64 t627, .int .i64 t628, .int .i64 t629, .slice none 0 0, .slice none 0 0]) ?_ 3 _ rfl; (with_reducible repeat (first | refine blk_drewN ?_ _ | refine blk_drew ?_ | refine blk_alloc ?_ _)); refine blk_put (cs := #[.int .i64 t627, .int .i64 t628, .int .i64 0, .slice none 0 0, .slice none 0 0]) ?_ 2 _ rfl; (with_reducible repeat (first | refine blk_drewN ?_ _ | refine blk_drew ?_ | refine blk_alloc ?_ _)); refine blk_put (cs := #[.int .i64 t627, .int .i64 0, .int .i64 0, .slice none 0 0, .slice none 0 0]) ?_ 1 _ rfl; (with_reducible repeat (first | refine blk_drewN ?_ _ | refine blk_drew ?_ | refine blk_alloc ?_ _)); refine blk_put (cs := #[.int .i64 0, .int .i64 0, .int .i64 0, .slice none 0 0, .slice none 0 0]) ?_ 0 _ rfl; (with_reducible repeat (first | refine blk_drewN ?_ _ | refine blk_drew ?_ | refine blk_alloc ?_ _)); exact BK640.out) hb); replace HB := Aside0.mk (below_step (pB HB) hb); (try clear hb); obtain ⟨hcz101_0, hcz101_1, hcz101_2, hcz101_3, hcz101_4⟩ := cells5 BK598; obtain ⟨hfz101_0, hfz101_1, hfz101_2, hfz101_3, hfz101_4⟩ := frz5 BK598; obtain ⟨hcz102_0, hcz102_1, hcz102_2, hcz102_3, hcz102_4⟩ := cells5 BK612; obtain ⟨hfz102_0, hfz102_1, hfz102_2, hfz102_3, hfz102_4⟩ := frz5 BK612) | (go_at_call 15; (with_reducible refine (insolvencyref33_SameDocket.calls kj10 t585 t586 t587 _ _ t588 _ _ t591 t599 t600 t601 _ _ t602 _ _ t605 true _ ?side1 ?side2 ?side3 ?side4 ?side5 ?side6 ?side7 ?side8 A40.out).mono ?_); (case side1 => repeat (first | exact (Kd.R_reads' HO590.out).2.2 | (with_reducible refine Kd.C_alloc ?_ _) | (with_reducible refine Kd.C_drewN ?_ _) | (with_reducible refine Kd.C_drew ?_))); (case side2 => exact (Kd.R_reads' HO590.out).2.1); (case side3 => repeat (first | exact (Kd.R_reads' HO593.out).2.2 | (with_reducible refine Kd.C_alloc ?_ _) | (with_reducible refine Kd.C_drewN ?_ _) | (with_reducible refine Kd.C_drew ?_))); (case side4 => exact (Kd.R_reads' HO593.out).2.1); (case side5 => repeat (first | exact (Kd.R_reads' HO604.out).2.2 | (with_reducible refine Kd.C_alloc ?_ _) | (with_reducible refine Kd.C_drewN ?_ _) | (with_reducible refine Kd.C_drew ?_))); (case side6 => exact (Kd.R_reads' HO604.out).2.1); (case side7 => repeat (first | exact (Kd.R_reads' HO607.out).2.2 | (with_reducible refine Kd.C_alloc ?_ _) | (with_reducible refine Kd.C_drewN ?_ _) | (with_reducible refine Kd.C_drew ?_))); (case side8 => exact (Kd.R_reads' HO607.out).2.1); rintro e w103 ⟨rfl, hb⟩; replace HO_584003 := rB HO_584003 hb; replace HO_584004 := rB HO_584004 hb; replace HO590 := rB HO590 hb; replace HO593 := rB HO593 hb; replace HO596 := rB HO596 hb; replace HO604 := rB HO604 hb; replace HO607 := rB HO607 hb; replace HO610 := rB HO610 hb; replace HO618 := rB HO618 hb; replace HO621 := rB HO621 hb; replace HO624 := rB HO624 hb; replace HO632 := rB HO632 hb; replace HO635 := rB HO635 hb; replace HO638 := rB HO638 hb; replace BK572 := bB BK572 hb; replace BK573 := bB BK573 hb; replace BK583 := bB BK583 hb; replace BK584 := bB BK584 hb; replace BK598 := bB BK598 hb; replace BK612 := bB BK612 hb; replace BK626 := bB BK626 hb; replace BK640 := bB BK640 hb; replace HB := Aside0.mk (below_step (pB HB) hb); (try clear hb); obtain ⟨Ao104, co104, eo104⟩ := Kd.R_slice HO596.out; subst eo104; obtain ⟨Ao105, co105, eo105⟩ := Kd.R_slice HO610.out; subst eo105) | (go_at_call 16; (with_reducible refine (insolvencyref33_SameRulings.calls kj10 _ _ t594 _ _ t608 true _ ?side1 ?side2 ?side3 ?side4 A42.out).mono ?_); (case side1 => repeat (first | exact (Kd.R_reads' HO596.out).2.2 | (with_reducible refine Kd.C_alloc ?_ _) | (with_reducible refine Kd.C_drewN ?_ _) | (with_reducible refine Kd.C_drew ?_))); (case side2 => exact (Kd.R_reads' HO596.out).2.1); (case side3 => repeat (first | exact (Kd.R_reads' HO610.out).2.2 | (with_reducible refine Kd.C_alloc ?_ _) | (with_reducible refine Kd.C_drewN ?_ _) | (with_reducible refine Kd.C_drew ?_))); (case side4 => exact (Kd.R_reads' HO610.out).2.1); rintro e w' ⟨rfl, ⟨nd, rfl⟩⟩))
       go_ret
       exact ⟨by first | rfl | (simp [errW_none, errW_some] <;> rfl) | (simp [*, errW_none, errW_some] <;> rfl), pB HB⟩
      ·replace c43 := Bool.eq_false_iff.mpr c43
       subst c43
       have H1 : (none) = some r := by rw [if_neg (show ¬ (false = true) by decide)] at H; exact H
       clear H
       have H := H1
       clear H1
       exact absurd H (by simp)
     ·replace c41 := Bool.eq_false_iff.mpr c41
      subst c41
      have H1 : (none) = some r := by rw [if_neg (show ¬ (false = true) by decide)] at H; exact H
      clear H
      have H := H1
      clear H1
      exact absurd H (by simp)
    ·rw [if_neg c39] at H
     exact absurd H (by simp)
   ·replace c38 := Bool.eq_false_iff.mpr c38
    subst c38
    have H1 : (none) = some r := by rw [if_neg (show ¬ (false = true) by decide)] at H; exact H
    clear H
    have H := H1
    clear H1
    exact absurd H (by simp)
end Go.Proofs.Ytpfiecjacpbhkaa.D

namespace Go.Proofs.YtpfiecjacpbhkaaW.PrintWords
open Go.ChangeShapes Go.WideShapes
end Go.Proofs.YtpfiecjacpbhkaaW.PrintWords

namespace Go.Proofs.Ytpfiecjacpbhkaa.Ho
open Go.RowKit Go.ChangeShapes Go.WideShapes Go.Deep Go.Proofs.YtpfiecjacpbhkaaW.PrintWords
open Go.Proofs.Ytpfiecjacpbhkaa.D
theorem rows_of {α : Type} {R : α → List Value → Prop} (ok : α → Prop) {size : Nat} {w : World} {A : Option Addr} {n : Nat} (hn : n ≤ maxLen)
    (h : 0 < n → ∃ ad, A = some ad ∧ ∀ i, i < n → ∃ x c, c.length = size ∧ R x c ∧ ok x ∧ ∀ j u, c[j]? = some u → w.cell? (ad.add (i * size + j)) = some u) :
    ∃ l : List α, n = l.length ∧ ReadsRow R size w A l.length l ∧ ∀ x ∈ l, ok x := by
  rcases Nat.eq_zero_or_pos n with h0 | hp
  · subst h0
    exact ⟨[], rfl, ⟨rfl, Nat.zero_le _, fun h => absurd h (Nat.lt_irrefl 0)⟩, fun x hx => by cases hx⟩
  · obtain ⟨ad, eA, hrow⟩ := h hp
    have key : ∀ m, m ≤ n → ∃ l : List α, l.length = m ∧ (∀ (j : Nat) (p : α), l[j]? = some p → ∃ c : List Value, c.length = size ∧ R p c ∧ ∀ i u, c[i]? = some u → w.cell? (ad.add (j * size + i)) = some u) ∧ ∀ x ∈ l, ok x := by
      intro m
      induction m with
      | zero => exact fun _ => ⟨[], rfl, fun j p hj => by simp at hj, fun x hx => by cases hx⟩
      | succ m ih =>
        intro hm
        obtain ⟨l, hl, hr, hok⟩ := ih (by omega)
        obtain ⟨x, c, hs, hR, hx, hcell⟩ := hrow m (by omega)
        refine ⟨l ++ [x], by simp [hl], ?_, ?_⟩
        · intro j p hj
          by_cases hlt : j < l.length
          · rw [List.getElem?_append_left hlt] at hj
            exact hr j p hj
          · have hle : l.length ≤ j := by omega
            rw [List.getElem?_append_right hle] at hj
            have e0 : j - l.length = 0 := by
              rcases Nat.eq_zero_or_pos (j - l.length) with e | e
              · exact e
              · rw [List.getElem?_eq_none (by simp; omega)] at hj
                cases hj
            rw [e0] at hj
            have ej : j = m := by omega
            subst ej
            have ex : x = p := by simpa using hj
            subst ex
            exact ⟨c, hs, hR, hcell⟩
        · intro y hy
          rcases List.mem_append.1 hy with h1 | h1
          · exact hok y h1
          · have : y = x := by simpa using h1
            subst this
            exact hx
    obtain ⟨l, hl, hr, hok⟩ := key n (Nat.le_refl _)
    refine ⟨l, hl.symm, ⟨rfl, ?_, fun _ => ⟨ad, eA, hr⟩⟩, hok⟩
    rw [hl]
    unfold maxLen at hn
    omega
section
variable {H : Type} {enc : TypeId × Value → H} {P : Program} {w : World} {base : Nat} {spare : Nat → Bool} {held : Bool}
def Reads (enc : TypeId × Value → H) (P : Program) (w : World) (base : Nat) (spare : Nat → Bool) (held : Bool) {α : Type} (e : TypeId) (R : α → List Value → Prop) (ok : α → Prop) : Prop :=
  ∀ (n : Nat) (cs : List Value) (x : DataW H × List MemPlace), cs.length = P.cellsOf e → DataW.trod enc P w base spare held n e cs = some x → ∃ a : α, R a cs ∧ ok a
theorem reads_int {t : TypeId} {k : IntKind} (ht : P.underlying t = some (.int k)) : Reads enc P w base spare held t (fun (a : Int) cs => cs = [.int k a]) (fun a => (Lit.int k a).wf = true) := by
  intro n cs x _ h
  cases n with
  | zero => simp [DataW.trod] at h
  | succ n =>
    unfold DataW.trod at h
    rw [ht] at h
    split at h <;> simp_all
theorem reads_bool {t : TypeId} (ht : P.underlying t = some .bool) : Reads enc P w base spare held t (fun (a : Bool) cs => cs = [.bool a]) (fun _ => True) := by
  intro n cs x _ h
  cases n with
  | zero => simp [DataW.trod] at h
  | succ n =>
    unfold DataW.trod at h
    rw [ht] at h
    split at h <;> simp_all
theorem open_rows {α : Type} {t e : TypeId} {R : α → List Value → Prop} {ok : α → Prop} {v : Value} {d : DataW H} {p : List MemPlace} {r : Reach} {b0 : Nat} (ht : P.underlying t = some (.slice e)) (hv : Value.okWide P w r b0 t v)
    (h : DataW.Trod enc P w base spare held t v d p) (hR : Reads enc P w base spare held e R ok) :
    ∃ (A : Option Addr) (l : List α) (cap : Nat), v = .slice A l.length cap ∧ l.length ≤ cap ∧ l.length ≤ maxLen ∧ ReadsRow R (P.cellsOf e) w A l.length l ∧ ∀ x ∈ l, ok x := by
  obtain ⟨A, len, cap, rfl⟩ := okWide_slice ht hv
  obtain ⟨fuel, hf⟩ := h
  rcases open_slice ht hf with ⟨hcs, _⟩ | ⟨a, len', cap', m, n, D, Pl, hcs, _, hl, hm, hmm, _, hi⟩
  · simp [Value.cells] at hcs
    obtain ⟨rfl, rfl, rfl⟩ := hcs
    exact ⟨none, [], 0, rfl, Nat.zero_le _, Nat.zero_le _, ⟨rfl, Nat.zero_le _, fun h => absurd h (Nat.lt_irrefl 0)⟩, fun x hx => by cases hx⟩
  · simp [Value.cells] at hcs
    obtain ⟨rfl, rfl, rfl⟩ := hcs
    have hlm : len ≤ m := by rw [hmm]; split <;> omega
    obtain ⟨l, rfl, hr, hok⟩ := rows_of (R := R) (w := w) (A := some a) (size := P.cellsOf e) ok (n := len) (by omega) (fun _ => ⟨a, rfl, fun i hi' => by
      obtain ⟨cs', hc, ht'⟩ := hi i (by omega)
      obtain ⟨_, hcl, hat⟩ := World.cells?_some hc
      obtain ⟨x, hx, hx'⟩ := hR n cs' _ hcl ht'
      refine ⟨x, cs', hcl, hx, hx', fun j u hu => ?_⟩
      have hj : j < cs'.length := (List.getElem?_eq_some_iff.1 hu).1
      rw [← Go.Deep.add_add, hat j (by omega), hu]⟩)
    exact ⟨some a, l, cap, rfl, hl, by omega, hr, hok⟩
theorem open_struct {α : Type} {t : TypeId} {fs : Array Field} {R : α → List Value → Prop} {ok : α → Prop} {v : Value} {d : DataW H} {p : List MemPlace} {r : Reach} {b0 : Nat} (ht : P.underlying t = some (.struct fs)) (hv : Value.okWide P w r b0 t v)
    (h : DataW.Trod enc P w base spare held t v d p) (hR : Reads enc P w base spare held t R ok) : ∃ (cs : List Value) (a : α), v = .agg cs.toArray ∧ R a cs ∧ ok a := by
  obtain ⟨cs, rfl, hsz⟩ := okWide_struct ht hv
  obtain ⟨fuel, hf⟩ := h
  obtain ⟨l⟩ := cs
  have e1 : (Value.agg ⟨l⟩).cells.toList = l := by simp [Value.cells]
  rw [e1] at hf
  obtain ⟨a, ha, ha'⟩ := hR fuel l _ (by simpa using hsz) hf
  exact ⟨l, a, rfl, ha, ha'⟩
theorem open_array {α : Type} {t e : TypeId} {n : Nat} {R : α → List Value → Prop} {ok : α → Prop} {v : Value} {d : DataW H} {p : List MemPlace} {r : Reach} {b0 : Nat} (ht : P.underlying t = some (.array n e)) (hv : Value.okWide P w r b0 t v)
    (h : DataW.Trod enc P w base spare held t v d p) (hR : Reads enc P w base spare held t R ok) : ∃ (cs : List Value) (a : α), v = .agg cs.toArray ∧ R a cs ∧ ok a := by
  simp only [Value.okWide, ht] at hv
  obtain ⟨cs, rfl, hsz, _⟩ := hv
  obtain ⟨fuel, hf⟩ := h
  obtain ⟨l⟩ := cs
  have e1 : (Value.agg ⟨l⟩).cells.toList = l := by simp [Value.cells]
  rw [e1] at hf
  obtain ⟨a, ha, ha'⟩ := hR fuel l _ (by simpa using hsz) hf
  exact ⟨l, a, rfl, ha, ha'⟩
theorem field_at {e : TypeId} {fs : Array Field} {n : Nat} {cs : List Value} {x : DataW H × List MemPlace} (he : P.underlying e = some (.struct fs)) (hone : oneCellFields P fs = true) (h : DataW.trod enc P w base spare held n e cs = some x) :
    ∃ m, ∀ (j : Nat) (f : Field) (v : Value), fs[j]? = some f → cs[j]? = some v → P.cellsOf f.type = 1 ∧ ∃ y, DataW.trod enc P w base spare held m f.type [v] = some y := by
  obtain ⟨ys, m, _, _, hlen, hyl, hf⟩ := DataW.trod_struct he h
  refine ⟨m, fun j f v hj hv => ?_⟩
  obtain ⟨ho, hk⟩ := hone_of hone j f hj
  have h1 := hf j f hj
  rw [ho, hk] at h1
  obtain ⟨hjc, hvj⟩ := List.getElem?_eq_some_iff.1 hv
  have hone' : (cs.drop j).take 1 = [v] := by
    rw [List.drop_eq_getElem_cons hjc, hvj]
    rfl
  rw [hone'] at h1
  have hjl : j < ys.length := by have := (Array.getElem?_eq_some_iff.1 hj).1; omega
  exact ⟨hk, ys[j], h1.trans (List.getElem?_eq_getElem hjl)⟩
theorem elem_at {e e' : TypeId} {k n : Nat} {cs : List Value} {x : DataW H × List MemPlace} (he : P.underlying e = some (.array k e')) (hone : P.cellsOf e' = 1) (h : DataW.trod enc P w base spare held n e cs = some x) :
    ∃ m, ∀ (j : Nat) (v : Value), j < k → cs[j]? = some v → ∃ y, DataW.trod enc P w base spare held m e' [v] = some y := by
  obtain ⟨ys, m, _, _, hlen, hyl, hf⟩ := DataW.trod_array he h
  refine ⟨m, fun j v hj hv => ?_⟩
  have h1 := hf j hj
  rw [hone, Nat.mul_one] at h1
  obtain ⟨hjc, hvj⟩ := List.getElem?_eq_some_iff.1 hv
  have hone' : (cs.drop j).take 1 = [v] := by
    rw [List.drop_eq_getElem_cons hjc, hvj]
    rfl
  rw [hone'] at h1
  exact ⟨ys[j]'(by omega), h1.trans (List.getElem?_eq_getElem (by omega))⟩
end
end Go.Proofs.Ytpfiecjacpbhkaa.Ho

namespace Go.Proofs.Ytpfiecjacpbhkaa.D
structure S22 where
  f0 : Int
  f1 : Int
def k22.K (_ : World) (x : S22) (cs : List Value) : Prop := cs = [.int .u8 x.f0, .int .u8 x.f1]
theorem k22_mk (w : World) (x : S22) : k22.K w x [.int .u8 x.f0, .int .u8 x.f1] := rfl
theorem k22_open {w : World} {x : S22} {cs : List Value} (h : k22.K w x cs) : cs = [.int .u8 x.f0, .int .u8 x.f1] := h
end Go.Proofs.Ytpfiecjacpbhkaa.D
namespace Go.Proofs.Ytpfiecjacpbhkaa.Ho
open Go.RowKit Go.ChangeShapes Go.WideShapes Go.Deep Go.Proofs.YtpfiecjacpbhkaaW.PrintWords
open Go.Proofs.Ytpfiecjacpbhkaa.D
set_option linter.unusedVariables false
set_option linter.unusedSimpArgs false
section
variable {H : Type} {enc : TypeId × Value → H} {w : World} {base : Nat} {spare : Nat → Bool} {held : Bool}
theorem cellsI_i64 : Try.prog.cellsOf 3 = 1 := by kernel_rfl
theorem cellsI_u16 : Try.prog.cellsOf 54 = 1 := by kernel_rfl
theorem cellsI_u8 : Try.prog.cellsOf 5 = 1 := by kernel_rfl
theorem cellsB : Try.prog.cellsOf 4 = 1 := by kernel_rfl
theorem readsI_i64 : Reads enc Try.prog w base spare held 3 (fun (a : Int) cs => (Kd.int .i64).K w a cs) (fun a => (Lit.int .i64 a).wf = true) := reads_int Try.underlying3
theorem readsI_u16 : Reads enc Try.prog w base spare held 54 (fun (a : Int) cs => (Kd.int .u16).K w a cs) (fun a => (Lit.int .u16 a).wf = true) := reads_int Try.underlying54
theorem readsI_u8 : Reads enc Try.prog w base spare held 5 (fun (a : Int) cs => (Kd.int .u8).K w a cs) (fun a => (Lit.int .u8 a).wf = true) := reads_int Try.underlying5
def ok22 (a : S22) : Prop := (Lit.int .u8 a.f0).wf = true ∧ (Lit.int .u8 a.f1).wf = true
theorem cells22 : Try.prog.cellsOf 22 = 2 := by kernel_rfl
theorem reads22 : Reads enc Try.prog w base spare held 22 (fun (a : S22) cs => k22.K w a cs) ok22 := by
  intro n cs x hl h
  rw [cells22] at hl
  obtain ⟨m, hm⟩ := elem_at Try.underlying22 (by kernel_rfl) h
  match cs, hl with
  | [v0, v1], _ =>
    obtain ⟨y0, h0⟩ := hm 0 v0 (by omega) rfl
    obtain ⟨b0, e0, w0⟩ := reads_int Try.underlying5 m [v0] y0 cellsI_u8.symm h0
    cases e0
    obtain ⟨y1, h1⟩ := hm 1 v1 (by omega) rfl
    obtain ⟨b1, e1, w1⟩ := reads_int Try.underlying5 m [v1] y1 cellsI_u8.symm h1
    cases e1
    exact ⟨⟨b0, b1⟩, k22_mk w _, w0, w1⟩
def ok47 (a : S47) : Prop := (Lit.int .i64 a.f0).wf = true ∧ (Lit.int .i64 a.f1).wf = true ∧ (Lit.int .i64 a.f2).wf = true ∧ (Lit.int .i64 a.f3).wf = true
theorem cells47 : Try.prog.cellsOf 47 = 4 := by kernel_rfl
theorem reads47 : Reads enc Try.prog w base spare held 47 (fun (a : S47) cs => k47.K w a cs) ok47 := by
  intro n cs x hl h
  rw [cells47] at hl
  obtain ⟨m, hm⟩ := field_at Try.underlying47 (by kernel_rfl) h
  match cs, hl with
  | [v0, v1, v2, v3], _ =>
    obtain ⟨_, y0, h0⟩ := hm 0 _ v0 rfl rfl
    obtain ⟨b0, e0, w0⟩ := reads_int Try.underlying3 m [v0] y0 cellsI_i64.symm h0
    cases e0
    obtain ⟨_, y1, h1⟩ := hm 1 _ v1 rfl rfl
    obtain ⟨b1, e1, w1⟩ := reads_int Try.underlying3 m [v1] y1 cellsI_i64.symm h1
    cases e1
    obtain ⟨_, y2, h2⟩ := hm 2 _ v2 rfl rfl
    obtain ⟨b2, e2, w2⟩ := reads_int Try.underlying3 m [v2] y2 cellsI_i64.symm h2
    cases e2
    obtain ⟨_, y3, h3⟩ := hm 3 _ v3 rfl rfl
    obtain ⟨b3, e3, w3⟩ := reads_int Try.underlying3 m [v3] y3 cellsI_i64.symm h3
    cases e3
    exact ⟨⟨b0, b1, b2, b3⟩, k47_mk w _, w0, w1, w2, w3⟩
def ok50 (a : S50) : Prop := (Lit.int .i64 a.f0).wf = true ∧ (Lit.int .i64 a.f1).wf = true ∧ (Lit.int .i64 a.f2).wf = true ∧ (Lit.int .i64 a.f3).wf = true
theorem cells50 : Try.prog.cellsOf 50 = 5 := by kernel_rfl
theorem reads50 : Reads enc Try.prog w base spare held 50 (fun (a : S50) cs => k50.K w a cs) ok50 := by
  intro n cs x hl h
  rw [cells50] at hl
  obtain ⟨m, hm⟩ := field_at Try.underlying50 (by kernel_rfl) h
  match cs, hl with
  | [v0, v1, v2, v3, v4], _ =>
    obtain ⟨_, y0, h0⟩ := hm 0 _ v0 rfl rfl
    obtain ⟨b0, e0, w0⟩ := reads_int Try.underlying3 m [v0] y0 cellsI_i64.symm h0
    cases e0
    obtain ⟨_, y1, h1⟩ := hm 1 _ v1 rfl rfl
    obtain ⟨b1, e1, w1⟩ := reads_int Try.underlying3 m [v1] y1 cellsI_i64.symm h1
    cases e1
    obtain ⟨_, y2, h2⟩ := hm 2 _ v2 rfl rfl
    obtain ⟨b2, e2, w2⟩ := reads_int Try.underlying3 m [v2] y2 cellsI_i64.symm h2
    cases e2
    obtain ⟨_, y3, h3⟩ := hm 3 _ v3 rfl rfl
    obtain ⟨b3, e3, w3⟩ := reads_int Try.underlying3 m [v3] y3 cellsI_i64.symm h3
    cases e3
    obtain ⟨_, y4, h4⟩ := hm 4 _ v4 rfl rfl
    obtain ⟨b4, e4, w4⟩ := reads_bool Try.underlying4 m [v4] y4 cellsB.symm h4
    cases e4
    exact ⟨⟨b0, b1, b2, b3, b4⟩, k50_mk w _, w0, w1, w2, w3⟩
def ok83 (a : S83) : Prop := (Lit.int .u8 a.f0).wf = true ∧ (Lit.int .u8 a.f1).wf = true ∧ (Lit.int .u8 a.f2).wf = true ∧ (Lit.int .u8 a.f3).wf = true
theorem cells83 : Try.prog.cellsOf 83 = 4 := by kernel_rfl
theorem reads83 : Reads enc Try.prog w base spare held 83 (fun (a : S83) cs => k83.K w a cs) ok83 := by
  intro n cs x hl h
  rw [cells83] at hl
  obtain ⟨m, hm⟩ := elem_at Try.underlying83 (by kernel_rfl) h
  match cs, hl with
  | [v0, v1, v2, v3], _ =>
    obtain ⟨y0, h0⟩ := hm 0 v0 (by omega) rfl
    obtain ⟨b0, e0, w0⟩ := reads_int Try.underlying5 m [v0] y0 cellsI_u8.symm h0
    cases e0
    obtain ⟨y1, h1⟩ := hm 1 v1 (by omega) rfl
    obtain ⟨b1, e1, w1⟩ := reads_int Try.underlying5 m [v1] y1 cellsI_u8.symm h1
    cases e1
    obtain ⟨y2, h2⟩ := hm 2 v2 (by omega) rfl
    obtain ⟨b2, e2, w2⟩ := reads_int Try.underlying5 m [v2] y2 cellsI_u8.symm h2
    cases e2
    obtain ⟨y3, h3⟩ := hm 3 v3 (by omega) rfl
    obtain ⟨b3, e3, w3⟩ := reads_int Try.underlying5 m [v3] y3 cellsI_u8.symm h3
    cases e3
    exact ⟨⟨b0, b1, b2, b3⟩, k83_mk w _, w0, w1, w2, w3⟩
end
end Go.Proofs.Ytpfiecjacpbhkaa.Ho

namespace Go.Proofs.Ytpfiecjacpbhkaa.D
open Go.RowKit
def insolvencylaw33_DocketFile.Pure : Prop := ∀ (a0 : S22) (l1 : List Int) (l2 : List S83) (a3 : S47) (a4 : Int) (a5 : Int) (a6 : Int) (a7 : Int) (a8 : Bool), Ho.ok22 a0 → l1.length ≤ maxLen → (∀ x ∈ l1, (Lit.int .u16 x).wf = true) → l2.length ≤ maxLen → (∀ x ∈ l2, Ho.ok83 x) → Ho.ok47 a3 → (Lit.int .u8 a4).wf = true → (Lit.int .u8 a5).wf = true → (Lit.int .u8 a6).wf = true → (Lit.int .i8 a7).wf = true → ∃ k, insolvencylaw33_DocketFile.f k a0.f0 a0.f1 l1 l2 a3.f0 a3.f1 a3.f2 a3.f3 a4 a5 a6 a7 a8 = some true
end Go.Proofs.Ytpfiecjacpbhkaa.D

namespace Go.Proofs.Ytpfiecjacpbhkaa.Hx
open Go.RowKit Go.Proofs.YtpfiecjacpbhkaaW.PrintWords Go.Proofs.YtpfiecjacpbhkaaW.PrintLast Go.Proofs.YtpfiecjacpbhkaaW.PrintMore F Hm
set_option linter.unusedVariables false
theorem ev_const {α : Type} {o : Option α} {r : α} (h : o = some r) : Ev (fun _ => o) r := ⟨0, fun _ _ => h⟩
theorem ev_if {α : Type} {c : Prop} [Decidable c] {g f : Nat → Option α} {r : α} (h : c) (k : Ev g r) : Ev (fun n => if c then g n else f n) r := by
  obtain ⟨K, k⟩ := k
  exact ⟨K, fun n hn => by show (if c then g n else f n) = _; rw [if_pos h]; exact k n hn⟩
theorem ev_else {α : Type} {c : Prop} [Decidable c] {g f : Nat → Option α} {r : α} (h : ¬ c) (k : Ev f r) : Ev (fun n => if c then g n else f n) r := by
  obtain ⟨K, k⟩ := k
  exact ⟨K, fun n hn => by show (if c then g n else f n) = _; rw [if_neg h]; exact k n hn⟩
theorem ev_then {α β : Type} {o : Option α} {f : Nat → α → Option β} {a : α} {r : β} (h : o = some a) (k : Ev (fun n => f n a) r) : Ev (fun n => o.bind (f n)) r := by
  obtain ⟨K, k⟩ := k
  exact ⟨K, fun n hn => by show o.bind (f n) = _; rw [h]; exact k n hn⟩
theorem w64 (x : Int) (h0 : -9223372036854775808 ≤ x) (h1 : x ≤ 9223372036854775807) : wrap64 x = x := by
  unfold wrap64
  omega
def isD (d : Int) : Bool := decide (0 ≤ d) && decide (d ≤ 1048576)
theorem isDay_some (d : Int) : calendar_isDay.f d = some (isD d) := by
  unfold calendar_isDay.f isD
  by_cases h : d ≥ 0
  · rw [if_pos h, decide_eq_true (show 0 ≤ d from h), Bool.true_and]
  · rw [if_neg h, decide_eq_false (show ¬ 0 ≤ d from h), Bool.false_and]
theorem refDay_some (d : Int) : insolvencyref1_IsDay.f d = some (isD d) := isDay_some d
theorem tmod_pos (d m : Int) (h : 0 ≤ d) : Int.tmod d m = d % m := Int.tmod_eq_emod_of_nonneg h
theorem tmod_neg (d m : Int) (h : d < 0) : Int.tmod d m = -((-d) % m) := by
  have e : Int.tmod d m = -(Int.tmod (-d) m) := by rw [Int.neg_tmod, Int.neg_neg]
  rw [e, tmod_pos (-d) m (by omega)]
theorem tmod7 (d : Int) : Int.tmod (wrap64 (Int.tmod d 7 + 7)) 7 = d % 7 := by
  by_cases h : 0 ≤ d
  · rw [tmod_pos d 7 h, w64 _ (by omega) (by omega), tmod_pos _ 7 (by omega)]
    omega
  · rw [tmod_neg d 7 (by omega), w64 _ (by omega) (by omega), tmod_pos _ 7 (by omega)]
    omega
theorem weekday_some (d : Int) : calendar_Weekday.f d = some (d % 7) := by
  unfold calendar_Weekday.f
  rw [tmod7]
theorem refWeekday_some (d : Int) : insolvencyref1_Weekday.f d = some (d % 7) := by
  unfold insolvencyref1_Weekday.f
  by_cases h0 : 0 ≤ d
  · rw [tmod_pos d 7 h0, if_neg (by omega)]
  · rw [tmod_neg d 7 (by omega)]
    by_cases h : -((-d) % 7) < 0
    · rw [if_pos h, w64 _ (by omega) (by omega)]
      congr 1
      omega
    · rw [if_neg h]
      congr 1
      omega
theorem has_ev (l : List Int) (d : Int) : ∀ (n i : Nat), i ≤ l.length → l.length - i = n → l.length ≤ 9223372036854775806 →
    Ev (fun k => insolvencyref1_has.l0 k l d (i : Int)) ((l.drop i).contains d) := by
  intro n
  induction n with
  | zero =>
    intro i hi hn hl
    refine Ev.step (f := fun _ => some false) (fun k => ?_) (by rw [List.drop_eq_nil_of_le (by omega)]; exact Ev.now false)
    rw [insolvencyref1_has.l0, if_neg (by omega)]
  | succ n ih =>
    intro i hi hn hl
    have hlt : i < l.length := by omega
    have e : l.drop i = l[i] :: l.drop (i + 1) := List.drop_eq_getElem_cons hlt
    rw [e, List.contains_cons]
    by_cases hd : rd l (i : Int) = d
    · refine Ev.step (f := fun _ => some true) (fun k => ?_) ?_
      · rw [insolvencyref1_has.l0, if_pos (by omega), if_pos (by omega), if_pos hd]
      · rw [rd_nat l i hlt] at hd
        rw [hd]
        simpa using Ev.now true
    · refine Ev.step (f := fun k => insolvencyref1_has.l0 k l d ((i + 1 : Nat) : Int)) (fun k => ?_) ?_
      · rw [insolvencyref1_has.l0, if_pos (by omega), if_pos (by omega), if_neg hd, w64 _ (by omega) (by omega)]
        rfl
      · rw [rd_nat l i hlt] at hd
        rw [show (d == l[i]) = false from by simpa using fun z => hd z.symm, Bool.false_or]
        exact ih (i + 1) (by omega) (by omega) hl
theorem refBus_ev (hs : List Int) (d : Int) (hl : hs.length ≤ 9223372036854775806) : Ev (fun k => insolvencyref1_IsBusiness.f k d hs) (bus hs d) := by
  unfold insolvencyref1_IsBusiness.f
  refine ev_then (refDay_some d) ?_
  have hb : bus hs d = (isD d && (decide (d % 7 < 5) && !hs.contains d)) := by unfold bus isD; rw [Bool.and_assoc]
  rw [hb]
  cases isD d with
  | false => exact ev_else (by simp) (Ev.now false)
  | true =>
    refine ev_if rfl (ev_then (refWeekday_some d) ?_)
    by_cases h5 : d % 7 < 5
    · rw [decide_eq_true h5]
      refine ev_if h5 ?_
      have := has_ev hs d hs.length 0 (by omega) (by omega) hl
      rw [List.drop_zero] at this
      simp only [Bool.true_and]
      exact Ev.bind (f := fun _ t => some (!t)) this (Ev.now _)
    · rw [decide_eq_false h5]
      exact ev_else h5 (Ev.now false)
theorem sorted_loop (hs : List Int) (hl : hs.length ≤ 1000) : ∀ (n i : Nat) (acc : List Int), i ≤ hs.length → hs.length - i = n → acc.length ≤ i →
    Ev (fun k => calendar_sorted.l0 k acc hs (hs.length : Int) (i : Int)) (Lib.compact ((acc ++ (hs.drop i).filter fun h => decide (0 ≤ h) && (decide (h ≤ 1048576) && decide (h % 7 < 5))).mergeSort fun x y => decide (x ≤ y))) := by
  intro n
  induction n with
  | zero =>
    intro i acc hi hn ha
    refine Ev.step (f := fun _ => some (Lib.compact (acc.mergeSort fun x y => decide (x ≤ y)))) (fun k => ?_) ?_
    · rw [calendar_sorted.l0, if_neg (by omega)]
      simp [Hw.slices_Sort_closed.f, Hw.slices_Compact_closed.f, show acc.length < 4611686018427387904 by omega]
    · rw [List.drop_eq_nil_of_le (by omega), List.filter_nil, List.append_nil]
      exact Ev.now _
  | succ n ih =>
    intro i acc hi hn ha
    have hlt : i < hs.length := by omega
    have e : hs.drop i = hs[i] :: hs.drop (i + 1) := List.drop_eq_getElem_cons hlt
    have er : rd hs (i : Int) = hs[i] := rd_nat hs i hlt
    rw [e, List.filter_cons]
    have go : ∀ acc' : List Int, acc'.length ≤ i + 1 → Ev (fun k => calendar_sorted.l0 k acc' hs (hs.length : Int) (wrap64 ((i : Int) + 1))) (Lib.compact ((acc' ++ (hs.drop (i + 1)).filter fun h => decide (0 ≤ h) && (decide (h ≤ 1048576) && decide (h % 7 < 5))).mergeSort fun x y => decide (x ≤ y))) := by
      intro acc' ha'
      rw [w64 _ (by omega) (by omega)]
      exact ih (i + 1) acc' (by omega) (by omega) ha'
    by_cases hd : isD hs[i] = true
    · by_cases h5 : hs[i] % 7 < 5
      · rw [if_pos (by simp only [isD, Bool.and_eq_true, decide_eq_true_eq] at hd ⊢; exact ⟨hd.1, hd.2, h5⟩)]
        refine Ev.step (f := fun k => calendar_sorted.l0 k (acc ++ [hs[i]]) hs (hs.length : Int) (wrap64 ((i : Int) + 1))) (fun k => ?_) ?_
        · rw [calendar_sorted.l0, if_pos (by omega), if_pos (by omega), if_pos (by omega), er, isDay_some, Option.bind_some, if_pos hd, weekday_some, Option.bind_some, if_pos h5, if_pos (by omega)]
        · have := go (acc ++ [hs[i]]) (by simp; omega)
          rw [List.append_assoc] at this
          exact this
      · rw [if_neg (by simp only [Bool.and_eq_true, decide_eq_true_eq]; intro z; exact h5 z.2.2)]
        refine Ev.step (f := fun k => calendar_sorted.l0 k acc hs (hs.length : Int) (wrap64 ((i : Int) + 1))) (fun k => ?_) (go acc (by omega))
        rw [calendar_sorted.l0, if_pos (by omega), if_pos (by omega), if_pos (by omega), er, isDay_some, Option.bind_some, if_pos hd, weekday_some, Option.bind_some, if_neg h5]
    · rw [if_neg (by simp only [isD, Bool.and_eq_true, decide_eq_true_eq] at hd ⊢; intro z; exact hd ⟨z.1, z.2.1⟩)]
      refine Ev.step (f := fun k => calendar_sorted.l0 k acc hs (hs.length : Int) (wrap64 ((i : Int) + 1))) (fun k => ?_) (go acc (by omega))
      rw [calendar_sorted.l0, if_pos (by omega), if_pos (by omega), if_pos (by omega), er, isDay_some, Option.bind_some, if_neg hd]
theorem sorted_ev (hs : List Int) (hl : hs.length ≤ 1000) : Ev (fun k => calendar_sorted.f k hs) (closedOf hs) := by
  have := sorted_loop hs hl hs.length 0 [] (by omega) (by omega) (by simp)
  rw [List.drop_zero, List.nil_append] at this
  exact this
theorem before_some (hs c : List Int) (hc : IsClosed hs c) (hl : c.length ≤ 1000) (d : Nat) (hd : d ≤ 1048577) : E.calendar_closed_before.f c (d : Int) = some (cnt hs d : Int) := by
  have h1 := cnt_closed hc d hd
  have h2 := bs_nb c (d : Int) hc.1
  have h3 := nb_le c (d : Int)
  have h4 := cnt_le hs d
  unfold E.calendar_closed_before.f Hw.sort_SearchInts.f
  rw [if_pos (by omega), Option.bind_some, h2]
  have e : mn (Int.tmod (d : Int) 7) 5 = ((min (d % 7) 5 : Nat) : Int) := by
    rw [tmod_pos _ 7 (by omega)]
    unfold mn
    split <;> omega
  have e2 : Int.tdiv (d : Int) 7 = (d : Int) / 7 := Int.tdiv_eq_ediv_of_nonneg (by omega)
  rw [e, e2, w64 ((d : Int) / 7) (by omega) (by omega)]
  unfold wk at h1
  rw [w64 ((d : Int) / 7 * 5) (by omega) (by omega), w64 (_ + _) (by omega) (by omega), w64 _ (by omega) (by omega)]
  congr 1
  omega
theorem nth_some (hs c : List Int) (hc : IsClosed hs c) (hl : c.length ≤ 1000) (m : Int) (hm : 0 ≤ m) : ∃ r, Hw.calendar_closed_nth.f c m = some r ∧ IsRes hs m r := by
  unfold Hw.calendar_closed_nth.f
  rw [if_pos (by omega)]
  refine ⟨_, ?_, res_of_bs hm (p := Hw.nthP c m) (fun d hd => ?_)⟩
  · split <;> rfl
  · unfold Hw.nthP
    have := before_some hs c hc hl (d + 1) (by omega)
    rw [show ((d + 1 : Nat) : Int) = (d : Int) + 1 by omega] at this
    rw [this]
    rfl
def mOf (hs : List Int) (day n : Int) : Int := if n = 0 then (cnt hs day.toNat : Int) else (cnt hs (day.toNat + 1) : Int) + n - 1
def IsAdd (hs : List Int) (day n : Int) (r : Int × Int) : Prop :=
  if (hs.length : Int) > 1000 then r = (0, 2) else if isD day = true ∧ 0 ≤ n ∧ n ≤ 1048576 then IsRes hs (mOf hs day n) r else r = (0, 1)
theorem IsAdd.unique {hs : List Int} {day n : Int} {x y : Int × Int} (h : IsAdd hs day n x) (k : IsAdd hs day n y) : x = y := by
  unfold IsAdd at h k
  by_cases h1 : (hs.length : Int) > 1000
  · rw [if_pos h1] at h k; rw [h, k]
  · rw [if_neg h1] at h k
    by_cases h2 : isD day = true ∧ 0 ≤ n ∧ n ≤ 1048576
    · rw [if_pos h2] at h k; exact h.unique k
    · rw [if_neg h2] at h k; rw [h, k]
theorem IsAdd.long {hs : List Int} {day n : Int} (h : (hs.length : Int) > 1000) : IsAdd hs day n (0, 2) := by unfold IsAdd; rw [if_pos h]
theorem IsAdd.ok {hs : List Int} {day n : Int} {r : Int × Int} (h : ¬ (hs.length : Int) > 1000) (h2 : isD day = true ∧ 0 ≤ n ∧ n ≤ 1048576) (hr : IsRes hs (mOf hs day n) r) : IsAdd hs day n r := by unfold IsAdd; rw [if_neg h, if_pos h2]; exact hr
theorem IsAdd.bad {hs : List Int} {day n : Int} (h : ¬ (hs.length : Int) > 1000) (h2 : ¬ (isD day = true ∧ 0 ≤ n ∧ n ≤ 1048576)) : IsAdd hs day n (0, 1) := by unfold IsAdd; rw [if_neg h, if_neg h2]
theorem mOf_nonneg (hs : List Int) (day n : Int) (hn : 0 ≤ n) : 0 ≤ mOf hs day n := by
  unfold mOf
  split <;> omega
theorem add_ev (hs : List Int) (day n : Int) : ∃ r, Ev (fun k => calendar_Add.f k day n hs) r ∧ IsAdd hs day n r := by
  unfold calendar_Add.f
  by_cases h1 : (hs.length : Int) > 1000
  · exact ⟨(0, 2), ev_if h1 (Ev.now _), IsAdd.long h1⟩
  have bad : ∀ b : Bool, b = true → Ev (fun k => calendar_Add.j0 k day n hs b) ((0, 1) : Int × Int) := by
    rintro b rfl
    refine Ev.step (f := fun _ => some (0, 1)) (fun k => ?_) (Ev.now _)
    rw [calendar_Add.j0, if_pos rfl]
  by_cases h2 : isD day = true ∧ 0 ≤ n ∧ n ≤ 1048576
  · have h2' := h2
    obtain ⟨hd, hn0, hn1⟩ := h2
    have hd' := hd
    simp only [isD, Bool.and_eq_true, decide_eq_true_eq] at hd'
    obtain ⟨d, rfl⟩ := Int.eq_ofNat_of_zero_le hd'.1
    have hcl := closedOf_closed hs
    have hln : (closedOf hs).length ≤ 1000 := by have := closedOf_length hs; omega
    obtain ⟨r, hr, hres⟩ := nth_some hs (closedOf hs) hcl hln (mOf hs (d : Int) n) (mOf_nonneg _ _ _ hn0)
    refine ⟨r, ?_, IsAdd.ok h1 h2' hres⟩
    refine ev_else h1 (ev_then (isDay_some _) (ev_if hd (ev_else (show ¬ n < 0 by omega) ?_)))
    rw [decide_eq_false (show ¬ n > 1048576 by omega)]
    refine Ev.step (f := fun k => (calendar_sorted.f k hs).bind fun t => _) (fun k => ?_) (Ev.bind (f := fun _ t => if n = 0 then ((E.calendar_closed_before.f t (d : Int)).bind fun t115 => ((Hw.calendar_closed_nth.f t t115).bind fun bt116 => (some (bt116.1, bt116.2)))) else ((E.calendar_closed_before.f t (wrap64 ((d : Int) + 1))).bind fun t118 => ((Hw.calendar_closed_nth.f t (wrap64 ((wrap64 (t118 + n)) - 1))).bind fun bt119 => (some (bt119.1, bt119.2))))) (sorted_ev hs (by omega)) ?_)
    · rw [calendar_Add.j0, if_neg (by simp)]
    · have hdn : d ≤ 1048576 := by omega
      have c1 := cnt_le hs (d + 1)
      unfold mOf at hr
      rw [Int.toNat_natCast] at hr
      by_cases h0 : n = 0
      · rw [if_pos h0] at hr ⊢
        rw [before_some hs _ hcl hln d (by omega), Option.bind_some, hr]
        exact Ev.now _
      · rw [if_neg h0] at hr ⊢
        rw [w64 ((d : Int) + 1) (by omega) (by omega), show ((d : Int) + 1) = ((d + 1 : Nat) : Int) by omega, before_some hs _ hcl hln (d + 1) (by omega), Option.bind_some, w64 (_ + n) (by omega) (by omega), w64 _ (by omega) (by omega), hr]
        exact Ev.now _
  · refine ⟨(0, 1), ?_, IsAdd.bad h1 h2⟩
    refine ev_else h1 (ev_then (isDay_some _) ?_)
    by_cases hd : isD day = true
    · refine ev_if hd ?_
      by_cases hn : n < 0
      · exact ev_if hn (bad _ rfl)
      · exact ev_else hn (bad _ (decide_eq_true (show n > 1048576 from by
          have h3 : ¬ (0 ≤ n ∧ n ≤ 1048576) := fun z => h2 ⟨hd, z⟩
          omega)))
    · exact ev_else hd (bad _ rfl)
theorem refLoop (hs : List Int) (hl : hs.length ≤ 1000) : ∀ (j d : Nat) (n : Int), d ≤ 1048577 → 1048577 - d = j → 0 ≤ n → n ≤ 1048576 →
    ∃ r, Ev (fun k => insolvencyref1_AddDays.l0 k n hs (d : Int)) r ∧ IsRes hs ((cnt hs d : Int) + (if n ≤ 1 then 1 else n) - 1) r := by
  intro j
  induction j with
  | zero =>
    intro d n hd hj h0 h1
    obtain rfl : d = 1048577 := by omega
    refine ⟨(0, 1), Ev.step (f := fun _ => some (0, 1)) (fun k => ?_) (Ev.now _), .inr ⟨rfl, by split <;> omega⟩⟩
    rw [insolvencyref1_AddDays.l0, if_neg (by omega)]
  | succ j ih =>
    intro d n hd hj h0 h1
    have hb := refBus_ev hs (d : Int) (by omega)
    have hc : cnt hs (d + 1) = cnt hs d + if bus hs (d : Int) = true then 1 else 0 := rfl
    have unf : ∀ k, insolvencyref1_AddDays.l0 (k + 1) n hs (d : Int) = (insolvencyref1_IsBusiness.f k (d : Int) hs).bind fun t => if t = true then (if n ≤ 1 then some ((d : Int), 0) else insolvencyref1_AddDays.l0 k (wrap64 (n - 1)) hs (wrap64 ((d : Int) + 1))) else insolvencyref1_AddDays.l0 k n hs (wrap64 ((d : Int) + 1)) := fun k => by
      rw [insolvencyref1_AddDays.l0, if_pos (by omega)]
    have e1 : wrap64 ((d : Int) + 1) = ((d + 1 : Nat) : Int) := by rw [w64 _ (by omega) (by omega)]; omega
    by_cases hbus : bus hs (d : Int) = true
    · rw [if_pos hbus] at hc
      by_cases hn : n ≤ 1
      · refine ⟨((d : Int), 0), Ev.step unf (Ev.bind hb ?_), .inl ⟨d, by omega, rfl, by rw [if_pos hn]; omega, by rw [if_pos hn]; omega⟩⟩
        exact ev_if hbus (ev_if hn (Ev.now _))
      · obtain ⟨r, hr, hres⟩ := ih (d + 1) (n - 1) (by omega) (by omega) (by omega) (by omega)
        refine ⟨r, Ev.step unf (Ev.bind hb ?_), ?_⟩
        · refine ev_if hbus (ev_else hn ?_)
          rw [e1, w64 (n - 1) (by omega) (by omega)]
          exact hr
        · rw [if_neg hn]
          rw [hc] at hres
          by_cases h2 : n - 1 ≤ 1
          · rw [if_pos h2] at hres
            rw [show (cnt hs d : Int) + n - 1 = ((cnt hs d + 1 : Nat) : Int) + 1 - 1 by omega]
            exact hres
          · rw [if_neg h2] at hres
            rw [show (cnt hs d : Int) + n - 1 = ((cnt hs d + 1 : Nat) : Int) + (n - 1) - 1 by omega]
            exact hres
    · obtain ⟨r, hr, hres⟩ := ih (d + 1) n (by omega) (by omega) h0 h1
      refine ⟨r, Ev.step unf (Ev.bind hb ?_), ?_⟩
      · refine ev_else hbus ?_
        rw [e1]
        exact hr
      · rw [if_neg hbus] at hc
        rw [hc] at hres
        exact hres
theorem refAdd_ev (hs : List Int) (day n : Int) : ∃ r, Ev (fun k => insolvencyref1_AddDays.f k day n hs) r ∧ IsAdd hs day n r := by
  unfold insolvencyref1_AddDays.f
  by_cases h1 : (hs.length : Int) > 1000
  · exact ⟨(0, 2), ev_if h1 (Ev.now _), IsAdd.long h1⟩
  have bad : ∀ b : Bool, b = true → Ev (fun k => insolvencyref1_AddDays.j0 k day n hs b) ((0, 1) : Int × Int) := by
    rintro b rfl
    refine Ev.step (f := fun _ => some (0, 1)) (fun k => ?_) (Ev.now _)
    rw [insolvencyref1_AddDays.j0, if_pos rfl]
  by_cases h2 : isD day = true ∧ 0 ≤ n ∧ n ≤ 1048576
  · have h2' := h2
    obtain ⟨hd, hn0, hn1⟩ := h2
    have hd' := hd
    simp only [isD, Bool.and_eq_true, decide_eq_true_eq] at hd'
    obtain ⟨d, rfl⟩ := Int.eq_ofNat_of_zero_le hd'.1
    have start : ∃ r, Ev (fun k => insolvencyref1_AddDays.j0 k (d : Int) n hs false) r ∧ IsRes hs (mOf hs (d : Int) n) r := by
      unfold mOf
      rw [Int.toNat_natCast]
      by_cases h0 : n = 0
      · obtain ⟨r, hr, hres⟩ := refLoop hs (by omega) _ d n (by omega) rfl (by omega) hn1
        refine ⟨r, Ev.step (f := fun k => insolvencyref1_AddDays.j1 k n hs (d : Int)) (fun k => ?_) (Ev.step (f := fun k => insolvencyref1_AddDays.l0 k n hs (d : Int)) (fun k => ?_) hr), ?_⟩
        · rw [insolvencyref1_AddDays.j0, if_neg (by simp), if_neg (by omega)]
        · rw [insolvencyref1_AddDays.j1]
        · rw [if_pos h0]
          rw [if_pos (by omega : n ≤ 1)] at hres
          rw [show (cnt hs d : Int) + 1 - 1 = (cnt hs d : Int) by omega] at hres
          exact hres
      · obtain ⟨r, hr, hres⟩ := refLoop hs (by omega) _ (d + 1) n (by omega) rfl (by omega) hn1
        refine ⟨r, Ev.step (f := fun k => insolvencyref1_AddDays.j1 k n hs ((d + 1 : Nat) : Int)) (fun k => ?_) (Ev.step (f := fun k => insolvencyref1_AddDays.l0 k n hs ((d + 1 : Nat) : Int)) (fun k => ?_) hr), ?_⟩
        · rw [insolvencyref1_AddDays.j0, if_neg (by simp), if_pos (by omega), w64 _ (by omega) (by omega)]
          rfl
        · rw [insolvencyref1_AddDays.j1]
        · rw [if_neg h0]
          by_cases h3 : n ≤ 1
          · rw [if_pos h3] at hres
            rw [show n = 1 by omega]
            exact hres
          · rw [if_neg h3] at hres
            exact hres
    obtain ⟨r, hr, hres⟩ := start
    refine ⟨r, ?_, IsAdd.ok h1 h2' hres⟩
    refine ev_else h1 (ev_then (refDay_some _) (ev_if hd (ev_else (show ¬ n < 0 by omega) ?_)))
    rw [decide_eq_false (show ¬ n > 1048576 by omega)]
    exact hr
  · refine ⟨(0, 1), ?_, IsAdd.bad h1 h2⟩
    refine ev_else h1 (ev_then (refDay_some _) ?_)
    by_cases hd : isD day = true
    · refine ev_if hd ?_
      by_cases hn : n < 0
      · exact ev_if hn (bad _ rfl)
      · exact ev_else hn (bad _ (decide_eq_true (show n > 1048576 from by
          have h3 : ¬ (0 ≤ n ∧ n ≤ 1048576) := fun z => h2 ⟨hd, z⟩
          omega)))
    · exact ev_else hd (bad _ rfl)
theorem adds (hs : List Int) (day n : Int) : ∃ r, Ev (fun k => calendar_Add.f k day n hs) r ∧ Ev (fun k => insolvencyref1_AddDays.f k day n hs) r ∧ IsAdd hs day n r := by
  obtain ⟨r, h1, h2⟩ := add_ev hs day n
  obtain ⟨q, k1, k2⟩ := refAdd_ev hs day n
  obtain rfl := h2.unique k2
  exact ⟨r, h1, k1, h2⟩
end Go.Proofs.Ytpfiecjacpbhkaa.Hx

namespace Go.Proofs.Ytpfiecjacpbhkaa.D
open Go.RowKit Go.Proofs.YtpfiecjacpbhkaaW.PrintWords Go.Proofs.YtpfiecjacpbhkaaW.PrintLast Go.Proofs.YtpfiecjacpbhkaaW.PrintMore Hx
set_option linter.unusedVariables false
set_option linter.unusedSimpArgs false
theorem awake_ev : Ev (fun k => insolvencylaw33_awake.f k) true := Ev.of (k := 64) (fun k => insolvencylaw33_awake.mono k) (by kernel_rfl)
def ctE (day ans app : Int) (n : Nat) : Int :=
  if day < 0 ∨ 1048576 < day then 1 else if 1000 < n then 2 else if (ans < 1 ∨ 250 < ans) ∨ app < 1 ∨ 250 < app then 1 else 0
theorem checkTerms_ev (day ans app : Int) (hs : List Int) : Ev (fun k => docket_checkTerms.f k day ans app hs) (ctE day ans app hs.length) := by
  refine ⟨1, fun k hk => ?_⟩
  obtain ⟨k, rfl⟩ : ∃ m, k = m + 1 := ⟨k - 1, by omega⟩
  show docket_checkTerms.f (k + 1) day ans app hs = _
  unfold docket_checkTerms.f docket_checkTerms.j0 ctE
  repeat' split
  all_goals first | rfl | (exfalso; simp at *; done) | (exfalso; simp at *; omega)
theorem refCheckTerms_some (day ans app : Int) (hs : List Int) : insolvencyref33_checkTerms.f day ans app hs = some (ctE day ans app hs.length) := by
  unfold insolvencyref33_checkTerms.f insolvencyref33_day.f ctE
  by_cases h0 : day ≥ 0
  · rw [if_pos h0, Option.bind_some]
    repeat' split
    all_goals first | rfl | (exfalso; simp at *; done) | (exfalso; simp at *; omega)
  · rw [if_neg h0, Option.bind_some, if_neg (by simp), if_pos (by omega)]
theorem ctE_len {day ans app : Int} {n : Nat} (h : ctE day ans app n = 0) : n ≤ 1000 := by
  unfold ctE at h
  split at h
  · cases h
  · split at h
    · cases h
    · omega
theorem cloneInts_some (l : List Int) (h : l.length < 17592186044416) : cloneInts.f l = some l := by
  unfold cloneInts.f
  rw [Option.bind_some, if_pos (by simpa using h), List.nil_append]
abbrev Dn := Int × Int × Int × List Int × List S50 × Int
def newV (day ans app : Int) (hs : List Int) : Dn := if ctE day ans app hs.length = 0 then (day, ans, app, hs, [], 0) else (0, 0, 0, [], [], ctE day ans app hs.length)
theorem newV_ok {day ans app : Int} {hs : List Int} (h : ctE day ans app hs.length = 0) : newV day ans app hs = (day, ans, app, hs, [], 0) := if_pos h
theorem newV_err {day ans app : Int} {hs : List Int} (h : ¬ ctE day ans app hs.length = 0) : newV day ans app hs = (0, 0, 0, [], [], ctE day ans app hs.length) := if_neg h
theorem new_ev (day ans app : Int) (hs : List Int) : Ev (fun k => docket_New.f k day ans app hs) (newV day ans app hs) := by
  unfold docket_New.f
  refine Ev.bind (checkTerms_ev day ans app hs) ?_
  by_cases h : ctE day ans app hs.length = 0
  · rw [newV_ok h]
    refine ev_if h (ev_then (a := (ans, app, hs)) ?_ (Ev.now _))
    unfold docket_copyTerms.f
    rw [cloneInts_some hs (by have := ctE_len h; omega)]
    rfl
  · rw [newV_err h]
    exact ev_else h (Ev.now _)
theorem refNew_some (day ans app : Int) (hs : List Int) : insolvencyref33_NewDocket.f day ans app hs = some (newV day ans app hs) := by
  unfold insolvencyref33_NewDocket.f
  rw [refCheckTerms_some, Option.bind_some]
  by_cases h : ctE day ans app hs.length = 0
  · rw [newV_ok h, if_pos h, Option.bind_some, if_pos (by have := ctE_len h; simp; omega), List.nil_append]
  · rw [newV_err h, if_neg h]
theorem ints_loop (l : List Int) (hl : l.length < 4611686018427387904) : ∀ (n i : Nat), i ≤ l.length → l.length - i = n → Ev (fun k => insolvencyref1_SameInts.l0 k l l (i : Int)) true
  | 0, i, h1, h2 => by
    refine Ev.step (fun k => rfl) (ev_else ?_ (Ev.now _))
    omega
  | n + 1, i, h1, h2 => by
    refine Ev.step (fun k => rfl) (ev_if (by omega) (ev_if (by omega) (ev_if (by omega) (ev_if rfl ?_))))
    have e : wrap64 ((i : Int) + 1) = ((i + 1 : Nat) : Int) := by rw [w64 _ (by omega) (by omega)]; omega
    rw [e]
    exact ints_loop l hl n (i + 1) (by omega) (by omega)
theorem sameInts_ev (l : List Int) (hl : l.length < 4611686018427387904) : Ev (fun k => insolvencyref1_SameInts.f k l l) true :=
  ev_if rfl (ints_loop l hl l.length 0 (Nat.zero_le _) (by omega))
theorem dock_loop (d a p : Int) (hs : List Int) (l : List S50) (hl : l.length < 4611686018427387904) : ∀ (n i : Nat), i ≤ l.length → l.length - i = n → Ev (fun k => insolvencyref33_SameDocket.l0 k (i : Int) d a p hs l d a p hs l) true
  | 0, i, h1, h2 => by
    refine Ev.step (fun k => rfl) (ev_else ?_ (Ev.now _))
    omega
  | n + 1, i, h1, h2 => by
    refine Ev.step (fun k => rfl) (ev_if (by omega) (ev_if (by omega) (ev_if (by omega) (ev_else (by simp) ?_))))
    have e : wrap64 ((i : Int) + 1) = ((i + 1 : Nat) : Int) := by rw [w64 _ (by omega) (by omega)]; omega
    rw [e]
    exact dock_loop d a p hs l hl n (i + 1) (by omega) (by omega)
theorem sameDocket_ev (d a p : Int) (hs : List Int) (l : List S50) (hh : hs.length < 4611686018427387904) (hl : l.length < 4611686018427387904) : Ev (fun k => insolvencyref33_SameDocket.f k d a p hs l d a p hs l) true := by
  unfold insolvencyref33_SameDocket.f
  refine ev_if rfl (ev_if rfl (ev_if rfl (Ev.bind (sameInts_ev hs hh) (ev_if rfl ?_))))
  refine Ev.step (fun k => rfl) (ev_else (by simp) ?_)
  exact dock_loop d a p hs l hl l.length 0 (Nat.zero_le _) (by omega)
end Go.Proofs.Ytpfiecjacpbhkaa.D
