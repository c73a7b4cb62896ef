/- Part 5 of 6 of the proof of DocketTwice: texts of this claim put one behind the other by a program; each begins with its own words. -/
import Derived.Deep.RegionHeld3
import Derived.Maps.Own
import Derived.Maps.OwnOps
import Derived.Maps.Views
import Derived.SizedLaws
import Derived.ChangeSlices
import Derived.OpenShut
import Derived.Deep.Slices
import Derived.Deep.Fields
import Derived.ChangeSame
import Derived.ProofKit
import Derived.Test.YtpfiecjacpbhkaaZDocketTwice4
namespace Go.Proofs.Ytpfiecjacpbhkaa.F
open Go.RowKit Go.Proofs.YtpfiecjacpbhkaaW.PrintWords Go.Proofs.YtpfiecjacpbhkaaW.PrintLast Go.Proofs.YtpfiecjacpbhkaaW.PrintMore
attribute [local go_sem] max2_int min2_int max_two min_two max_three min_three max_four min_four
set_option linter.unusedVariables false
set_option linter.unusedSimpArgs false
mutual
def insolvencyref1_AddDays.j0 : Nat → Int → Int → List Int → Bool → Option (Int × Int)
  | 0, _, _, _, _ => none
  | k + 1, x0, x1, x2, x22 => if x22 = true then (some (0, 1)) else (if x1 > 0 then (insolvencyref1_AddDays.j1 k x1 x2 (wrap64 (x0 + 1))) else (insolvencyref1_AddDays.j1 k x1 x2 x0))
def insolvencyref1_AddDays.j1 : Nat → Int → List Int → Int → Option (Int × Int)
  | 0, _, _, _ => none
  | k + 1, x1, x2, x8 => insolvencyref1_AddDays.l0 k x1 x2 x8
def insolvencyref1_AddDays.l0 : Nat → Int → List Int → Int → Option (Int × Int)
  | 0, _, _, _ => none
  | k + 1, x1, x2, x8 => if x8 ≤ 1048576 then ((insolvencyref1_IsBusiness.f k x8 x2).bind fun t126 => (if t126 = true then (if x1 ≤ 1 then (some (x8, 0)) else (insolvencyref1_AddDays.l0 k (wrap64 (x1 - 1)) x2 (wrap64 (x8 + 1)))) else (insolvencyref1_AddDays.l0 k x1 x2 (wrap64 (x8 + 1))))) else (some (0, 1))
end
def insolvencyref1_AddDays.f (k : Nat) (a0 : Int) (a1 : Int) (l2 : List Int) : Option (Int × Int) := if (l2.length : Int) > 1000 then (some (0, 2)) else ((insolvencyref1_IsDay.f a0).bind fun t125 => (if t125 = true then (if a1 < 0 then (insolvencyref1_AddDays.j0 k a0 a1 l2 true) else (insolvencyref1_AddDays.j0 k a0 a1 l2 (decide (a1 > 1048576)))) else (insolvencyref1_AddDays.j0 k a0 a1 l2 true)))
theorem insolvencyref1_AddDays.mono_l : ∀ k, (∀ y0 y1 y2 y3, LeO (insolvencyref1_AddDays.j0 k y0 y1 y2 y3) (insolvencyref1_AddDays.j0 (k + 1) y0 y1 y2 y3)) ∧ (∀ y0 y1 y2, LeO (insolvencyref1_AddDays.j1 k y0 y1 y2) (insolvencyref1_AddDays.j1 (k + 1) y0 y1 y2)) ∧ (∀ y0 y1 y2, LeO (insolvencyref1_AddDays.l0 k y0 y1 y2) (insolvencyref1_AddDays.l0 (k + 1) y0 y1 y2))
  | 0 => ⟨fun _ _ _ _ r h => by simp [insolvencyref1_AddDays.j0] at h, fun _ _ _ r h => by simp [insolvencyref1_AddDays.j1] at h, fun _ _ _ r h => by simp [insolvencyref1_AddDays.l0] at h⟩
  | k + 1 => by
    obtain ⟨ih0, ih1, ih2⟩ := insolvencyref1_AddDays.mono_l k
    refine ⟨?_, ?_, ?_⟩
    · intro y0 y1 y2 y3
      unfold insolvencyref1_AddDays.j0
      repeat' first
      | (with_reducible exact ih0 _ _ _ _)
      | (with_reducible exact ih1 _ _ _)
      | (with_reducible exact ih2 _ _ _)
      | (with_reducible exact insolvencyref1_IsBusiness.mono _ _ _)
      | (with_reducible exact LeO.refl _)
      | (with_reducible exact LeO.none _)
      | (with_reducible refine LeO.ite ?_ ?_)
      | (with_reducible refine LeO.bind ?_ (fun _ => ?_))
      | exact ih0 _ _ _ _
      | exact ih1 _ _ _
      | exact ih2 _ _ _
      | exact insolvencyref1_IsBusiness.mono _ _ _
      | exact LeO.none _
      | refine LeO.ite ?_ ?_
      | refine LeO.bind ?_ (fun _ => ?_)
    · intro y0 y1 y2
      unfold insolvencyref1_AddDays.j1
      repeat' first
      | (with_reducible exact ih0 _ _ _ _)
      | (with_reducible exact ih1 _ _ _)
      | (with_reducible exact ih2 _ _ _)
      | (with_reducible exact insolvencyref1_IsBusiness.mono _ _ _)
      | (with_reducible exact LeO.refl _)
      | (with_reducible exact LeO.none _)
      | (with_reducible refine LeO.ite ?_ ?_)
      | (with_reducible refine LeO.bind ?_ (fun _ => ?_))
      | exact ih0 _ _ _ _
      | exact ih1 _ _ _
      | exact ih2 _ _ _
      | exact insolvencyref1_IsBusiness.mono _ _ _
      | exact LeO.none _
      | refine LeO.ite ?_ ?_
      | refine LeO.bind ?_ (fun _ => ?_)
    · intro y0 y1 y2
      unfold insolvencyref1_AddDays.l0
      repeat' first
      | (with_reducible exact ih0 _ _ _ _)
      | (with_reducible exact ih1 _ _ _)
      | (with_reducible exact ih2 _ _ _)
      | (with_reducible exact insolvencyref1_IsBusiness.mono _ _ _)
      | (with_reducible exact LeO.refl _)
      | (with_reducible exact LeO.none _)
      | (with_reducible refine LeO.ite ?_ ?_)
      | (with_reducible refine LeO.bind ?_ (fun _ => ?_))
      | exact ih0 _ _ _ _
      | exact ih1 _ _ _
      | exact ih2 _ _ _
      | exact insolvencyref1_IsBusiness.mono _ _ _
      | exact LeO.none _
      | refine LeO.ite ?_ ?_
      | refine LeO.bind ?_ (fun _ => ?_)
theorem insolvencyref1_AddDays.mono : ∀ a0 a1 a2 k, LeO (insolvencyref1_AddDays.f k a0 a1 a2) (insolvencyref1_AddDays.f (k + 1) a0 a1 a2) := by
  intro a0 a1 a2 k
  obtain ⟨ih0, ih1, ih2⟩ := insolvencyref1_AddDays.mono_l k
  unfold insolvencyref1_AddDays.f
  repeat' first
      | (with_reducible exact ih0 _ _ _ _)
      | (with_reducible exact ih1 _ _ _)
      | (with_reducible exact ih2 _ _ _)
      | (with_reducible exact insolvencyref1_IsBusiness.mono _ _ _)
      | (with_reducible exact LeO.refl _)
      | (with_reducible exact LeO.none _)
      | (with_reducible refine LeO.ite ?_ ?_)
      | (with_reducible refine LeO.bind ?_ (fun _ => ?_))
      | exact ih0 _ _ _ _
      | exact ih1 _ _ _
      | exact ih2 _ _ _
      | exact insolvencyref1_IsBusiness.mono _ _ _
      | exact LeO.none _
      | refine LeO.ite ?_ ?_
      | refine LeO.bind ?_ (fun _ => ?_)
set_option maxHeartbeats 8000000 in
set_option maxRecDepth 100000 in
theorem insolvencyref1_AddDays.calls (k : Nat) (a0 : Int) (a1 : Int) (A2 : Option Addr) (c2 : Nat) (l2 : List Int) (r1 : Int) (r2 : Int) (w : World) (hr2 : Kd.C (Kd.int .i64) w A2 l2.length l2) (hc2 : l2.length ≤ c2) (h : insolvencyref1_AddDays.f k a0 a1 l2 = some (r1, r2)) :
    Calls Try.prog 61 #[.int .i64 a0, .int .i64 a1, .slice A2 l2.length c2] w fun e w' => e = .returned (.tuple #[.int .i64 r1, .int .i64 r2]) ∧ Drawn0 w w' := by
  have HR2 := Aside0.mk hr2
  have HC2 := Aside0.mk hc2
  clear hr2 hc2
  have H : (if (l2.length : Int) > 1000 then (some (0, 2)) else ((insolvencyref1_IsDay.f a0).bind fun t125 => (if t125 = true then (if a1 < 0 then (insolvencyref1_AddDays.j0 k a0 a1 l2 true) else (insolvencyref1_AddDays.j0 k a0 a1 l2 (decide (a1 > 1048576)))) else (insolvencyref1_AddDays.j0 k a0 a1 l2 true)))) = some (r1, r2) := h
  clear h
  by_cases c4 : (l2.length : Int) > 1000
  · rw [if_pos c4] at H
    have c4b0 : decide (1000 < (l2.length : Int)) = true := decide_eq_true c4
    have c4b1 : decide (1000 < l2.length) = true := decide_eq_true (by omega)
    clear c4
    simp only [Option.some.injEq, Prod.mk.injEq] at H
    obtain ⟨rfl, rfl⟩ := H
    go_enter Try.func61, Try.ntmps61
    go_wp2
    go_ret2
    exact ⟨by first | rfl | (simp; done) | (simp [*]; done), by repeat (first | exact Drawn0.refl _ | apply Drawn0.step)⟩
  · rw [if_neg c4] at H
    have c4b0 : decide (1000 < (l2.length : Int)) = false := decide_eq_false c4
    have c4b1 : decide (1000 < l2.length) = false := decide_eq_false (by omega)
    clear c4
    have HC5 := Aside0.mk H
    clear H
    go_enter Try.func61, Try.ntmps61
    go_upto_region 3 with (fail)
    go_cut [22] (fun v22 wc => ∃ (kq : Nat) (x22_4 : Bool), v22 = .bool x22_4 ∧ Aside0 (insolvencyref1_AddDays.j0 kq a0 a1 l2 x22_4 = some (r1, r2)) ∧ Aside0 (kq ≤ k) ∧ Drawn0 w wc)
    case first =>
      have H := HC5.out
      clear HC5
      replace H := Option.bind_eq_some_iff.mp H
      obtain ⟨t125, A60, H⟩ := H
      replace H : (if t125 = true then (if a1 < 0 then (insolvencyref1_AddDays.j0 k a0 a1 l2 true) else (insolvencyref1_AddDays.j0 k a0 a1 l2 (decide (a1 > 1048576)))) else (insolvencyref1_AddDays.j0 k a0 a1 l2 true)) = some (r1, r2) := H
      have A6 := Aside0.mk A60
      clear A60
      by_cases c7 : t125 = true
      · subst c7
        have H1 : (if a1 < 0 then (insolvencyref1_AddDays.j0 k a0 a1 l2 true) else (insolvencyref1_AddDays.j0 k a0 a1 l2 (decide (a1 > 1048576)))) = some (r1, r2) := by rw [if_pos rfl] at H; exact H
        clear H
        have H := H1
        clear H1
        by_cases c8 : a1 < 0
        · rw [if_pos c8] at H
          have c8b0 : decide (a1 < 0) = true := decide_eq_true c8
          clear c8
          (first | rw [c8b0] | (simp only [i64_w, i32_w]; rw [c8b0]) | skip)
          have H' := Aside0.mk H
          clear H
          go_wp2_with (first | ((with_reducible refine gate_callee (f := 69) rfl ?_); refine goesL_ (some 13) rfl rfl Try.func69 (by kernel_rfl) rfl #[.int .i64 a0] rfl (by (try simp only [List.map_toArray, List.map_cons, List.map_nil]); first | done | rfl | (simp only [List.length_drop, List.length_take]; rfl)) ?_; (with_reducible refine (insolvencyref1_IsDay.calls a0 true _ A6.out).mono ?_); rintro e w' ⟨rfl, ⟨nd, rfl⟩⟩; refine ⟨_, rfl, ?_⟩))
          go_meet
          case rel => exact ⟨_, (true), (by first | rfl | (simp; done) | (simp [*]; done)), H', ⟨by first | omega | exact Nat.le_refl _⟩, by repeat (first | exact Drawn0.refl _ | apply Drawn0.step)⟩
        · rw [if_neg c8] at H
          have c8b0 : decide (a1 < 0) = false := decide_eq_false c8
          clear c8
          (first | rw [c8b0] | (simp only [i64_w, i32_w]; rw [c8b0]) | skip)
          have H' := Aside0.mk H
          clear H
          go_wp2_with (first | ((with_reducible refine gate_callee (f := 69) rfl ?_); refine goesL_ (some 13) rfl rfl Try.func69 (by kernel_rfl) rfl #[.int .i64 a0] rfl (by (try simp only [List.map_toArray, List.map_cons, List.map_nil]); first | done | rfl | (simp only [List.length_drop, List.length_take]; rfl)) ?_; (with_reducible refine (insolvencyref1_IsDay.calls a0 true _ A6.out).mono ?_); rintro e w' ⟨rfl, ⟨nd, rfl⟩⟩; refine ⟨_, rfl, ?_⟩))
          go_meet
          case rel => exact ⟨_, (decide (a1 > 1048576)), (by first | rfl | (simp; done) | (simp [*]; done)), H', ⟨by first | omega | exact Nat.le_refl _⟩, by repeat (first | exact Drawn0.refl _ | apply Drawn0.step)⟩
      · replace c7 := Bool.eq_false_iff.mpr c7
        subst c7
        have H1 : (insolvencyref1_AddDays.j0 k a0 a1 l2 true) = some (r1, r2) := by rw [if_neg (show ¬ (false = true) by decide)] at H; exact H
        clear H
        have H := H1
        clear H1
        have H' := Aside0.mk H
        clear H
        go_wp2_with (first | ((with_reducible refine gate_callee (f := 69) rfl ?_); refine goesL_ (some 13) rfl rfl Try.func69 (by kernel_rfl) rfl #[.int .i64 a0] rfl (by (try simp only [List.map_toArray, List.map_cons, List.map_nil]); first | done | rfl | (simp only [List.length_drop, List.length_take]; rfl)) ?_; (with_reducible refine (insolvencyref1_IsDay.calls a0 false _ A6.out).mono ?_); rintro e w' ⟨rfl, ⟨nd, rfl⟩⟩; refine ⟨_, rfl, ?_⟩))
        go_meet
        case rel => exact ⟨_, (true), (by first | rfl | (simp; done) | (simp [*]; done)), H', ⟨by first | omega | exact Nat.le_refl _⟩, by repeat (first | exact Drawn0.refl _ | apply Drawn0.step)⟩
    case rest =>
      clear HC5
      try clear c2
      try clear p2
      try clear c4
      try clear c4b0
      try clear c4b1
      try clear c6
      try clear c7
      try clear c8
      try clear c8b0
      obtain ⟨kq, x22_4, rfl, HA, HJ4, ⟨mc4, rfl⟩⟩ := hcut
      cases kq with
      | zero => exact absurd HA.out (by simp [insolvencyref1_AddDays.j0])
      | succ kj4 =>
        have H := HA.out
        clear HA
        simp only [insolvencyref1_AddDays.j0] at H
        by_cases c9 : x22_4 = true
        · subst c9
          have H1 : (some (0, 1)) = some (r1, r2) := by rw [if_pos rfl] at H; exact H
          clear H
          have H := H1
          clear H1
          simp only [Option.some.injEq, Prod.mk.injEq] at H
          obtain ⟨rfl, rfl⟩ := H
          go_wp2
          go_ret2
          exact ⟨by first | rfl | (simp; done) | (simp [*]; done), by repeat (first | exact Drawn0.refl _ | apply Drawn0.step)⟩
        · replace c9 := Bool.eq_false_iff.mpr c9
          subst c9
          have H1 : (if a1 > 0 then (insolvencyref1_AddDays.j1 kj4 a1 l2 (wrap64 (a0 + 1))) else (insolvencyref1_AddDays.j1 kj4 a1 l2 a0)) = some (r1, r2) := by rw [if_neg (show ¬ (false = true) by decide)] at H; exact H
          clear H
          have H := H1
          clear H1
          have HC10 := Aside0.mk H
          clear H
          go_upto_if 25 with (fail)
          go_cut [8] (fun v8 wc => ∃ (kq : Nat) (x8_9 : Int), v8 = .int .i64 x8_9 ∧ Aside0 (insolvencyref1_AddDays.j1 kq a1 l2 x8_9 = some (r1, r2)) ∧ Aside0 (kq ≤ kj4) ∧ Drawn0 w wc)
          case first =>
            have H := HC10.out
            clear HC10
            by_cases c11 : a1 > 0
            · rw [if_pos c11] at H
              have c11b0 : decide (0 < a1) = true := decide_eq_true c11
              clear c11
              (first | rw [c11b0] | (simp only [i64_w, i32_w]; rw [c11b0]) | skip)
              have H' := Aside0.mk H
              clear H
              go_wp2
              go_meet
              case rel => exact ⟨_, (wrap64 (a0 + 1)), (by first | rfl | (simp; done) | (simp [*]; done)), H', ⟨by have := HJ4.out; first | omega | exact Nat.le_refl _⟩, by repeat (first | exact Drawn0.refl _ | apply Drawn0.step)⟩
            · rw [if_neg c11] at H
              have c11b0 : decide (0 < a1) = false := decide_eq_false c11
              clear c11
              (first | rw [c11b0] | (simp only [i64_w, i32_w]; rw [c11b0]) | skip)
              have H' := Aside0.mk H
              clear H
              go_wp2
              go_meet
              case rel => exact ⟨_, (a0), (by first | rfl | (simp; done) | (simp [*]; done)), H', ⟨by have := HJ4.out; first | omega | exact Nat.le_refl _⟩, by repeat (first | exact Drawn0.refl _ | apply Drawn0.step)⟩
          case rest =>
            clear HC10
            try clear c1
            try clear c2
            try clear p2
            try clear c4
            try clear c4b0
            try clear c4b1
            try clear c6
            try clear p6
            try clear c7
            try clear c8
            try clear c8b0
            try clear c9
            try clear c11
            try clear c11b0
            try clear p2
            obtain ⟨kq, x8_9, rfl, HA, HJ9, ⟨mc9, rfl⟩⟩ := hcut
            cases kq with
            | zero => exact absurd HA.out (by simp [insolvencyref1_AddDays.j1])
            | succ kj9 =>
              have H := HA.out
              clear HA
              simp only [insolvencyref1_AddDays.j1] at H
              have H' := Aside0.mk H
              clear H
              go_wp2
              go_loopg [1, 8] kj9 (fun kq v1 v8 w' => ∃ (x1_3 : Int) (x8_3 : Int), v1 = .int .i64 x1_3 ∧ v8 = .int .i64 x8_3 ∧ Aside0 (insolvencyref1_AddDays.l0 kq x1_3 l2 x8_3 = some (r1, r2)) ∧ Aside0 (kq ≤ kj9) ∧ Drawn0 w w')
              case atStart => exact ⟨(a1), (x8_9), (by first | rfl | (simp; done) | (simp [*]; done)), (by first | rfl | (simp; done) | (simp [*]; done)), H', ⟨Nat.le_refl _⟩, by repeat (first | exact Drawn0.refl _ | apply Drawn0.step)⟩
              case round =>
                clear H'
                try clear c1
                try clear c2
                try clear p2
                try clear c4
                try clear c4b0
                try clear c4b1
                try clear c6
                try clear p6
                try clear c7
                try clear c8
                try clear c8b0
                try clear c9
                try clear c11
                try clear c11b0
                try clear p2
                try clear p6
                obtain ⟨x1_3, x8_3, rfl, rfl, HA, HK3, ⟨m3, rfl⟩⟩ := hrel
                cases gk with
                | zero => exact absurd HA.out (by simp [insolvencyref1_AddDays.l0])
                | succ k3 =>
                  have H := HA.out
                  clear HA
                  simp only [insolvencyref1_AddDays.l0] at H
                  by_cases c12 : x8_3 ≤ 1048576
                  · rw [if_pos c12] at H
                    have c12b0 : decide (x8_3 ≤ 1048576) = true := decide_eq_true c12
                    clear c12
                    replace H := Option.bind_eq_some_iff.mp H
                    obtain ⟨t126, A130, H⟩ := H
                    replace H : (if t126 = true then (if x1_3 ≤ 1 then (some (x8_3, 0)) else (insolvencyref1_AddDays.l0 k3 (wrap64 (x1_3 - 1)) l2 (wrap64 (x8_3 + 1)))) else (insolvencyref1_AddDays.l0 k3 x1_3 l2 (wrap64 (x8_3 + 1)))) = some (r1, r2) := H
                    have A13 := Aside0.mk A130
                    clear A130
                    by_cases c14 : t126 = true
                    · subst c14
                      have H1 : (if x1_3 ≤ 1 then (some (x8_3, 0)) else (insolvencyref1_AddDays.l0 k3 (wrap64 (x1_3 - 1)) l2 (wrap64 (x8_3 + 1)))) = some (r1, r2) := by rw [if_pos rfl] at H; exact H
                      clear H
                      have H := H1
                      clear H1
                      by_cases c15 : x1_3 ≤ 1
                      · rw [if_pos c15] at H
                        have c15b0 : decide (x1_3 ≤ 1) = true := decide_eq_true c15
                        clear c15
                        simp only [Option.some.injEq, Prod.mk.injEq] at H
                        obtain ⟨rfl, rfl⟩ := H
                        go_wp2_with (first | ((with_reducible refine gate_callee (f := 70) rfl ?_); refine goesL_ (some 34) rfl rfl Try.func70 (by kernel_rfl) rfl #[.int .i64 x8_3, .slice A2 l2.length c2] rfl (by (try simp only [List.map_toArray, List.map_cons, List.map_nil]); first | done | rfl | (simp only [List.length_drop, List.length_take]; rfl)) ?_; (with_reducible refine (insolvencyref1_IsBusiness.calls k3 x8_3 _ _ l2 true _ ?side1 ?side2 A13.out).mono ?_); (case side1 => repeat (first | exact HR2.out | (with_reducible refine Kd.C_alloc ?_ _) | (with_reducible refine Kd.C_drewN ?_ _) | (with_reducible refine Kd.C_drew ?_))); (case side2 => exact HC2.out); rintro e w' ⟨rfl, ⟨nd, rfl⟩⟩; refine ⟨_, rfl, ?_⟩))
                        go_ret2
                        exact ⟨by first | rfl | (simp; done) | (simp [*]; done), by repeat (first | exact Drawn0.refl _ | apply Drawn0.step)⟩
                      · rw [if_neg c15] at H
                        have c15b0 : decide (x1_3 ≤ 1) = false := decide_eq_false c15
                        clear c15
                        have H' := Aside0.mk H
                        clear H
                        go_wp2_with (first | ((with_reducible refine gate_callee (f := 70) rfl ?_); refine goesL_ (some 34) rfl rfl Try.func70 (by kernel_rfl) rfl #[.int .i64 x8_3, .slice A2 l2.length c2] rfl (by (try simp only [List.map_toArray, List.map_cons, List.map_nil]); first | done | rfl | (simp only [List.length_drop, List.length_take]; rfl)) ?_; (with_reducible refine (insolvencyref1_IsBusiness.calls k3 x8_3 _ _ l2 true _ ?side1 ?side2 A13.out).mono ?_); (case side1 => repeat (first | exact HR2.out | (with_reducible refine Kd.C_alloc ?_ _) | (with_reducible refine Kd.C_drewN ?_ _) | (with_reducible refine Kd.C_drew ?_))); (case side2 => exact HC2.out); rintro e w' ⟨rfl, ⟨nd, rfl⟩⟩; refine ⟨_, rfl, ?_⟩))
                        go_roundg k3
                        case measure => have := HJ4.out; have := HJ9.out; have := HK3.out; omega
                        case rel => exact ⟨(wrap64 (x1_3 - 1)), (wrap64 (x8_3 + 1)), (by first | rfl | (simp; done) | (simp [*]; done)), (by first | rfl | (simp; done) | (simp [*]; done)), H', ⟨by have := HJ4.out; have := HJ9.out; have := HK3.out; omega⟩, by repeat (first | exact Drawn0.refl _ | apply Drawn0.step)⟩
                    · replace c14 := Bool.eq_false_iff.mpr c14
                      subst c14
                      have H1 : (insolvencyref1_AddDays.l0 k3 x1_3 l2 (wrap64 (x8_3 + 1))) = some (r1, r2) := by rw [if_neg (show ¬ (false = true) by decide)] at H; exact H
                      clear H
                      have H := H1
                      clear H1
                      have H' := Aside0.mk H
                      clear H
                      go_wp2_with (first | ((with_reducible refine gate_callee (f := 70) rfl ?_); refine goesL_ (some 34) rfl rfl Try.func70 (by kernel_rfl) rfl #[.int .i64 x8_3, .slice A2 l2.length c2] rfl (by (try simp only [List.map_toArray, List.map_cons, List.map_nil]); first | done | rfl | (simp only [List.length_drop, List.length_take]; rfl)) ?_; (with_reducible refine (insolvencyref1_IsBusiness.calls k3 x8_3 _ _ l2 false _ ?side1 ?side2 A13.out).mono ?_); (case side1 => repeat (first | exact HR2.out | (with_reducible refine Kd.C_alloc ?_ _) | (with_reducible refine Kd.C_drewN ?_ _) | (with_reducible refine Kd.C_drew ?_))); (case side2 => exact HC2.out); rintro e w' ⟨rfl, ⟨nd, rfl⟩⟩; refine ⟨_, rfl, ?_⟩))
                      go_roundg k3
                      case measure => have := HJ4.out; have := HJ9.out; have := HK3.out; omega
                      case rel => exact ⟨(x1_3), (wrap64 (x8_3 + 1)), (by first | rfl | (simp; done) | (simp [*]; done)), (by first | rfl | (simp; done) | (simp [*]; done)), H', ⟨by have := HJ4.out; have := HJ9.out; have := HK3.out; omega⟩, by repeat (first | exact Drawn0.refl _ | apply Drawn0.step)⟩
                  · rw [if_neg c12] at H
                    have c12b0 : decide (x8_3 ≤ 1048576) = false := decide_eq_false c12
                    clear c12
                    simp only [Option.some.injEq, Prod.mk.injEq] at H
                    obtain ⟨rfl, rfl⟩ := H
                    go_wp2
                    go_ret2
                    exact ⟨by first | rfl | (simp; done) | (simp [*]; done), by repeat (first | exact Drawn0.refl _ | apply Drawn0.step)⟩
end Go.Proofs.Ytpfiecjacpbhkaa.F

namespace Go.Proofs.Ytpfiecjacpbhkaa.D
open Go.RowKit Go.Proofs.YtpfiecjacpbhkaaW.PrintWords Go.Proofs.YtpfiecjacpbhkaaW.PrintLast Go.Proofs.YtpfiecjacpbhkaaW.PrintMore
set_option linter.unusedVariables false
set_option linter.unusedSimpArgs false
set_option maxHeartbeats 8000000 in
set_option maxRecDepth 100000 in
theorem matterOf_calls (d a p : Int) (v : Value) (A : Option Addr) (c : Nat) (l : List S50) (x : Int) (w : World) (hlen : l.length < 4611686018427387904) (hr : Kd.C k50 w A l.length l) :
    Calls Try.prog 47 #[.agg #[.int .i64 d, .int .i64 a, .int .i64 p, v, .slice A l.length c], .int .i64 x] w fun e w' => e = .returned (.int .i64 (fnd x l 0)) ∧ Below w.heap.size w w' := by
  have hu := Try.underlying30
  have hu2 := Try.underlying50
  have HR := Aside0.mk hr
  obtain ⟨r, hr⟩ : ∃ r, fnd x l 0 = r := ⟨_, rfl⟩
  rw [hr]
  have R0 := Aside0.mk hr
  clear hr
  have B0 : Below w.heap.size w (w.alloc (.cells #[.int .i64 d, .int .i64 a, .int .i64 p, v, .slice A l.length c] 30 (0, 0))) := below_alloc (Below.refl _ _) _
  have K0 := blk_new w (.cells #[.int .i64 d, .int .i64 a, .int .i64 p, v, .slice A l.length c] 30 (0, 0))
  go_enter Try.func47, Try.ntmps47
  go_wp2_with (fail)
  generalize w.alloc (.cells #[.int .i64 d, .int .i64 a, .int .i64 p, v, .slice A l.length c] 30 (0, 0)) = W0 at *
  have HB0 := Aside0.mk B0
  have HK0 := Aside0.mk K0
  clear B0 K0
  go_loopg [5] (l.length) (fun kx s5 wr => ∃ (j : Nat), s5 = .int .i64 j ∧ j ≤ l.length ∧ l.length - j ≤ kx ∧ Aside0 (fnd x (l.drop j) j = r) ∧ Aside0 (Below w.heap.size w wr) ∧ Aside0 (wr.heap[w.heap.size]? = some (.cells #[.int .i64 d, .int .i64 a, .int .i64 p, v, .slice A l.length c] 30 (0, 0))))
  case atStart => exact ⟨0, rfl, Nat.zero_le _, by omega, ⟨by simpa using R0.out⟩, HB0, HK0⟩
  case round =>
    obtain ⟨j, rfl, hj, hk, I, HB, HK⟩ := hrel
    clear HB0 HK0 R0
    have o4 : wr.cell? ⟨w.heap.size, 4, none⟩ = some (.slice A l.length c) := (blk_cell HK.out 4).trans rfl
    by_cases hlt : j < l.length
    · obtain ⟨k1, rfl⟩ : ∃ m, gk = m + 1 := ⟨gk - 1, by omega⟩
      have hd : decide ((j : Int) < (l.length : Int)) = true := decide_eq_true (by omega)
      have p0 : 0 ≤ (j : Int) := Int.natCast_nonneg j
      have q0 : (j : Int) < (l.length : Int) := by omega
      have er : rd_T50 l (j : Int) = l[j] := by
        unfold rd_T50
        rw [Int.toNat_natCast, List.getD_eq_getElem?_getD, List.getElem?_eq_getElem hlt]
        rfl
      have I2 := I.out
      rw [List.drop_eq_getElem_cons hlt, fnd] at I2
      clear I
      obtain ⟨ad, ea, h0, h1, h2, h3, h4⟩ := at_T50 HR.out (j : Int) p0 q0
      cases ea
      rw [er, Int.toNat_natCast] at h0
      replace h0 := (HB.out.cell (World.block_lt_of_cell? w _ h0)).trans h0
      have HW := Aside0.mk (show wrap64 ((j : Int) + 1) = ((j + 1 : Nat) : Int) by unfold wrap64; omega)
      generalize l[j] = y at *
      have p1 := eq_true p0
      have q1 := eq_true q0
      clear p0 q0 h1 h2 h3 h4
      by_cases hy : y.f0 = x
      · rw [if_pos hy] at I2
        have hb0 : (y.f0 == x) = true := by simpa using hy
        subst I2
        clear hy
        go_wp2
        go_ret
        exact ⟨rfl, HB.out⟩
      · rw [if_neg hy] at I2
        have hb0 : (y.f0 == x) = false := by simpa using hy
        have I3 := Aside0.mk I2
        clear I2 hy
        go_wp2
        go_roundg k1
        case measure => omega
        case rel => exact ⟨j + 1, by first | (rw [HW.out]; done) | (simp only [HW.out]; done) | go_num, by omega, by omega, I3, HB, HK⟩
    · have ej : j = l.length := by omega
      subst ej
      have I2 := I.out
      rw [List.drop_length, fnd] at I2
      subst I2
      have hd : decide ((l.length : Int) < (l.length : Int)) = false := decide_eq_false (by omega)
      go_wp2
      go_ret
      exact ⟨rfl, HB.out⟩
set_option maxHeartbeats 8000000 in
set_option maxRecDepth 100000 in
theorem required_calls (kind : Int) (w : World) (hk : 2 ≤ kind ∧ kind ≤ 6) : Calls Try.prog 48 #[.int .i64 kind] w fun e w' => e = .returned (.int .i64 (kind - 1)) ∧ Below w.heap.size w w' := by
  have B0 : Below w.heap.size w (w.alloc (.cells #[.int .i64 0, .int .i64 0, .int .i64 1, .int .i64 2, .int .i64 3, .int .i64 4, .int .i64 5] 3 (0, 0))) := below_alloc (Below.refl _ _) _
  have hu := Try.underlying25
  have hkk : kind = 2 ∨ kind = 3 ∨ kind = 4 ∨ kind = 5 ∨ kind = 6 := by omega
  rcases hkk with rfl | rfl | rfl | rfl | rfl
  all_goals go_enter Try.func48, Try.ntmps48
  all_goals go_wp2
  all_goals go_ret
  all_goals exact ⟨rfl, B0⟩
set_option maxHeartbeats 8000000 in
set_option maxRecDepth 100000 in
theorem opened_err (g : Nat) (d a p : Int) (hv : Value) (A : Option Addr) (c : Nat) (l : List S50) (id : Int) (w : World) (hlen : l.length ≤ c) (hl2 : l.length < 4611686018427387904)
    (hb : w.heap[g]? = some (.cells #[.int .i64 d, .int .i64 a, .int .i64 p, hv, .slice A l.length c] 30 (0, 0))) (hr : Kd.C k50 w A l.length l) (he : (openF l id).2 ≠ 0) :
    Calls Try.prog 46 #[.pointer (some ⟨g, 0, none⟩), .int .i64 id] w fun e w' => e = .returned (.int .i64 (openF l id).2) ∧ Below w.heap.size w w' := by
  have hu := Try.underlying30
  obtain ⟨o0, o1, o2, o3, hc4⟩ := cells5 ⟨hb⟩
  have HR := Aside0.mk hr
  clear hr
  unfold openF at he ⊢
  by_cases h1 : id < 0
  · rw [if_pos h1]
    have hd : decide (id < 0) = true := decide_eq_true h1
    go_enter Try.func46, Try.ntmps46
    go_wp2
    go_ret
    exact ⟨rfl, Below.refl _ _⟩
  · rw [if_neg h1] at he ⊢
    have hd : decide (id < 0) = false := decide_eq_false h1
    have hf := matterOf_calls d a p hv A c l id w hl2 HR.out
    generalize fnd id l 0 = q at *
    by_cases h2 : 0 ≤ q
    · rw [if_pos h2]
      have hd2 : decide (0 ≤ q) = true := decide_eq_true h2
      go_enter Try.func46, Try.ntmps46
      go_wp2_with (go_at_call 47; refine hf.mono ?_; rintro e w' ⟨rfl, hbl⟩)
      go_ret
      exact ⟨rfl, hbl⟩
    · rw [if_neg h2] at he ⊢
      have hd2 : decide (0 ≤ q) = false := decide_eq_false h2
      by_cases h3 : (l.length : Int) ≥ 32
      · rw [if_pos h3]
        have hd3 : decide ((32 : Int) ≤ (l.length : Int)) = true := decide_eq_true h3
        go_enter Try.func46, Try.ntmps46
        go_wp2_with (go_at_call 47; refine hf.mono ?_; rintro e w' ⟨rfl, hbl⟩; have hc5 := pw_cell_below hbl hc4)
        go_ret
        exact ⟨rfl, hbl⟩
      · rw [if_neg h3] at he
        exact absurd rfl he
set_option maxHeartbeats 8000000 in
set_option maxRecDepth 100000 in
theorem opened_ok (g : Nat) (d a p : Int) (hv u : Value) (l : List S50) (id : Int) (w0 w : World) (hB : Below w0.heap.size w0 w) (hg : w0.heap.size ≤ g)
    (hb : w.heap[g]? = some (.cells #[.int .i64 d, .int .i64 a, .int .i64 p, hv, u] 30 (0, 0))) (ho : Kd.R k50 50 w w0.heap.size (fun _ => True) u l) (he : (openF l id).2 = 0) :
    Calls Try.prog 46 #[.pointer (some ⟨g, 0, none⟩), .int .i64 id] w fun e w' => ∃ u', e = .returned (.int .i64 0) ∧ w'.heap[g]? = some (.cells #[.int .i64 d, .int .i64 a, .int .i64 p, hv, u'] 30 (0, 0)) ∧
      Kd.R k50 50 w' w0.heap.size (fun _ => True) u' (openF l id).1 ∧ Below w0.heap.size w0 w' ∧ (∀ k, k < w.heap.size → k ≠ g → some k ≠ u.ownBlock → w'.heap[k]? = w.heap[k]?) := by
  have hu := Try.underlying30
  have hu2 := Try.underlying50
  have hu3 := Try.underlying28
  obtain ⟨A, c, rfl⟩ := Kd.R_slice ho
  have hC := (Kd.R_reads' ho).2
  obtain ⟨o0, o1, o2, o3, hc4⟩ := cells5 ⟨hb⟩
  unfold openF at he ⊢
  by_cases h1 : id < 0
  · rw [if_pos h1] at he; cases he
  rw [if_neg h1] at he ⊢
  by_cases h2 : 0 ≤ fnd id l 0
  · rw [if_pos h2] at he; cases he
  rw [if_neg h2] at he ⊢
  by_cases h3 : (l.length : Int) ≥ 32
  · rw [if_pos h3] at he; cases he
  rw [if_neg h3] at he ⊢
  clear he
  have hf := matterOf_calls d a p hv A c l id w (by omega) hC.2
  have hd : decide (id < 0) = false := decide_eq_false h1
  have hd2 : decide (0 ≤ fnd id l 0) = false := decide_eq_false h2
  have hd3 : decide ((32 : Int) ≤ (l.length : Int)) = false := decide_eq_false h3
  generalize fnd id l 0 = q at *
  have HO := Aside0.mk ho
  have HL : l.length < 32 := by omega
  have BK := Aside0.mk hb
  have HBB := Aside0.mk hB
  clear ho hC hb hB h1 h2 h3
  go_enter Try.func46, Try.ntmps46
  go_wp2_with (first | (go_at_call 47; refine hf.mono ?_; rintro e w1 ⟨rfl, hbl⟩; have hc5 := pw_cell_below hbl hc4; have HO1 := Aside0.mk (Kd.R_below HO.out hbl); have BK1 := Aside0.mk (blk_below BK.out hbl); have HB1 := Aside0.mk (below_then HBB.out HBB.out.size hbl)) | ((with_reducible refine gate_builtin (b := .append) (xs := #[.tmp 23, .tmp 26]) rfl ?_); at_builtin; refine Kd.R_append k50 (w0 := w0) w0.heap.size rfl (.tmp 23) (.tmp 26) 28 50 (.agg #[(.int .i64 0), (.int .i64 0), (.int .i64 0), (.int .i64 0), (.bool false)]) 40 rfl Try.underlying28 info50 rfl (by decide) (by omega) _ l (⟨id, 1, 0, 0, false⟩ : S50) [.int .i64 id, .int .i64 1, .int .i64 0, .int .i64 0, .bool false] (fun _ => True) (fun _ => False) rfl rfl ?aP (fun _ hk => hk.elim) ?aF ?aO ?aB ?aS ?aL ?_; (case aP => exact k50_mkM _ _ _ (⟨id, 1, 0, 0, false⟩ : S50)); (case aB => exact HB1.out); (case aF => exact (fun _ _ => trivial)); (case aO => exact HO1.out); (case aS => exact HB1.out.size); (case aL => omega); intro v2 w2 ho2 hb2 hgr hat; obtain ⟨A2, c2, rfl⟩ := Kd.R_slice ho2; have hne : some g ≠ (Value.slice A l.length c).ownBlock := Kd.R_ne HO1.out BK1.out (by decide); have BK2 := blk_grown BK1.out hgr hne; have hz4 := (blk_cell BK2 4).trans rfl; have hy4 := blk_frozen BK2 4))
  go_ret
  simp only [List.length_append, List.length_cons, List.length_nil, Nat.zero_add] at ho2
  refine ⟨_, rfl, blk_put BK2 4 _ rfl, Kd.R_mono (Kd.R_far (p := ⟨g, 4, none⟩) (Kd.R_types ho2 BK2 (by decide)) (fun _ hk => hk.2) _) (fun _ _ => trivial), hb2.setCell hg _, fun k hk hkg hku => ?_⟩
  rw [Below.heap_setCell w2 ⟨g, 4, none⟩ _ k hkg, hgr.block k (Nat.lt_of_lt_of_le hk hbl.size) hku]
  exact hbl.block k hk
def RAddAt (w : World) (day n : Int) (v : Value) (ad : Int × Int) : Prop :=
  ∀ w1, Below w.heap.size w w1 → Calls Try.prog 61 #[.int .i64 day, .int .i64 n, v] w1 fun e w2 => e = .returned (.tuple #[.int .i64 ad.1, .int .i64 ad.2]) ∧ Below w1.heap.size w1 w2
theorem option_some (o : Int) (w : World) : Calls Try.prog 59 #[.int .i64 o] w fun e w' => e = .returned (.bool (decide (0 ≤ o ∧ o < 4))) ∧ Below w.heap.size w w' := by
  refine (insolvencyref33_option.calls o (decide (0 ≤ o ∧ o < 4)) w ?_).mono (fun e w' ⟨h1, h2⟩ => ⟨h1, h2.below⟩)
  unfold insolvencyref33_option.f
  by_cases h : o ≥ 0
  · rw [if_pos h]
    by_cases h2 : o < 4
    · simp [h2, h]
    · simp [h2]
  · rw [if_neg h]
    simp; omega
set_option maxHeartbeats 8000000 in
set_option maxRecDepth 100000 in
theorem rchange_opt (b o gO : Nat) (kind day id opt : Int) (w : World) (hk : kind = 4 ∨ kind = 6) (ho : ¬ (0 ≤ opt ∧ opt < 4)) :
    Calls Try.prog 49 #[.pointer (some ⟨gO, 0, none⟩), .pointer (some ⟨b, o, none⟩), .agg #[.int .i64 kind, .int .i64 day, .int .i64 id, .int .i64 opt]] w fun e w' => e = .returned (.int .i64 41) ∧ Below w.heap.size w w' := by
  have hu := Try.underlying47
  have B1 : Below w.heap.size w (w.alloc (.cells #[.int .i64 kind, .int .i64 day, .int .i64 id, .int .i64 opt] 47 (0, 0))) := below_alloc (Below.refl _ _) _
  have hop := fun w' => option_some opt w'
  rw [decide_eq_false ho] at hop
  rcases hk with rfl | rfl
  all_goals go_enter Try.func49, Try.ntmps49
  all_goals go_wp2_with (go_at_call 59; refine (hop _).mono ?_; rintro e w2 ⟨rfl, hb⟩)
  all_goals go_ret
  all_goals exact ⟨rfl, below_step B1 hb⟩
set_option maxHeartbeats 8000000 in
set_option maxRecDepth 100000 in
theorem rchange_add (b o gO : Nat) (kind day id opt d ans app : Int) (v u : Value) (ad : Int × Int) (w : World) (hk : kind = 2 ∨ kind = 4 ∧ 0 ≤ opt ∧ opt < 4)
    (hO : w.heap[gO]? = some (.cells #[.int .i64 d, .int .i64 ans, .int .i64 app, v, u] 30 (0, 0))) (ha : RAddAt w day (if kind = 2 then ans else app) v ad) (he : ad.2 ≠ 0) :
    Calls Try.prog 49 #[.pointer (some ⟨gO, 0, none⟩), .pointer (some ⟨b, o, none⟩), .agg #[.int .i64 kind, .int .i64 day, .int .i64 id, .int .i64 opt]] w fun e w' => e = .returned (.int .i64 ad.2) ∧ Below w.heap.size w w' := by
  have hu := Try.underlying47
  have hu2 := Try.underlying27
  have hu3 := Try.underlying30
  have B1 : Below w.heap.size w (w.alloc (.cells #[.int .i64 kind, .int .i64 day, .int .i64 id, .int .i64 opt] 47 (0, 0))) := below_alloc (Below.refl _ _) _
  have K1 := blk_new w (.cells #[.int .i64 kind, .int .i64 day, .int .i64 id, .int .i64 opt] 47 (0, 0))
  have he2 : (ad.2 != 0) = true := by simpa using he
  obtain ⟨a1, a2⟩ := ad
  have KO := blk_below hO B1
  obtain ⟨f0, f1, f2, f3⟩ := cells4 ⟨K1⟩
  obtain ⟨o0, o1, o2, o3, o4⟩ := cells5 ⟨KO⟩
  rcases hk with rfl | ⟨rfl, hk0, hk1⟩
  · rw [if_pos rfl] at ha
    go_enter Try.func49, Try.ntmps49
    go_upto_region 9 with (fail)
    generalize w.alloc (.cells #[.int .i64 2, .int .i64 day, .int .i64 id, .int .i64 opt] 47 (0, 0)) = W1 at *
    have hA := ha W1.drew (below_drew1 B1)
    have B2 := below_drew1 B1
    clear ha he hO
    go_region_held3 (fun w_ => w_.cell? ⟨w.heap.size, 1, none⟩ = some (.int .i64 day) ∧ w_.cell? ⟨gO, 3, none⟩ = some v) (first | exact ⟨f1, o3⟩ | exact ⟨f1', o3'⟩ | go_keep) (first | (go_at_call 61; refine hA.mono ?_; rintro e w2 ⟨rfl, hb⟩; have f1' := pw_cell_below hb (show W1.drew.cell? _ = _ from f1); have o3' := pw_cell_below hb (show W1.drew.cell? _ = _ from o3)))
    go_wp2
    go_ret
    exact ⟨rfl, below_step B2 hb⟩
  · rw [if_neg (by decide)] at ha
    have hop := option_some opt (w.alloc (.cells #[.int .i64 4, .int .i64 day, .int .i64 id, .int .i64 opt] 47 (0, 0)))
    rw [decide_eq_true (⟨hk0, hk1⟩ : 0 ≤ opt ∧ opt < 4)] at hop
    go_enter Try.func49, Try.ntmps49
    go_upto_region 9 with (go_at_call 59; refine hop.mono ?_; rintro e w2 ⟨rfl, hb⟩; have f0' := pw_cell_below hb f0; have f1' := pw_cell_below hb f1; have f3' := pw_cell_below hb f3; have o1' := pw_cell_below hb o1; have o2' := pw_cell_below hb o2; have o3' := pw_cell_below hb o3)
    have B2 := below_step B1 hb
    have hA := ha w2.drew (below_drew1 B2)
    have B3 := below_drew1 B2
    clear ha he hO hop
    go_region_held3 (fun w_ => w_.cell? ⟨w.heap.size, 1, none⟩ = some (.int .i64 day) ∧ w_.cell? ⟨gO, 3, none⟩ = some v) (first | exact ⟨f1', o3'⟩ | exact ⟨f1'', o3''⟩ | go_keep) (first | (go_at_call 61; refine hA.mono ?_; rintro e w3 ⟨rfl, hb3⟩; have f1'' := pw_cell_below hb3 (show w2.drew.cell? _ = _ from f1'); have o3'' := pw_cell_below hb3 (show w2.drew.cell? _ = _ from o3')))
    go_wp2
    go_ret
    exact ⟨rfl, below_step B3 hb3⟩
def rchgM (m : S50) (kind due opt : Int) : S50 := ⟨m.f0, kind, if kind = 6 then m.f2 else due, if kind = 4 ∨ kind = 6 then opt else m.f3, m.f4⟩
def RPost (w0 w : World) (g cap : Nat) (ms ms' : List S50) (ok : Nat → Prop) (w' : World) : Prop :=
  Kd.R k50 50 w' w0.heap.size ok (.slice (some ⟨g, 0, none⟩) ms.length cap) ms' ∧ Below w0.heap.size w0 w' ∧ ∀ k, k < w.heap.size → k ≠ g → w'.heap[k]? = w.heap[k]?
section
variable {g cap : Nat} {ok : Nat → Prop} {ms : List S50} {w0 w V : World}
theorem rfin (hB : Below w0.heap.size w0 w) (hg0 : w0.heap.size ≤ g) (hBV : Below w.heap.size w V) (hr : Kd.R k50 50 V w0.heap.size ok (.slice (some ⟨g, 0, none⟩) ms.length cap) ms) (i : Int) (h0 : 0 ≤ i) (h1 : i < ms.length) (m : S50) (hm : rd_T50 ms i = m) (due opt : Int) :
    RPost w0 w g cap ms (ms.set i.toNat (rchgM m 2 due opt)) ok ((V.setCell ⟨g, i.toNat * 5 + 2, none⟩ (.int .i64 due)).setCell ⟨g, i.toNat * 5 + 1, none⟩ (.int .i64 2)) ∧
    RPost w0 w g cap ms (ms.set i.toNat (rchgM m 4 due opt)) ok ((((V.setCell ⟨g, i.toNat * 5 + 2, none⟩ (.int .i64 due)).setCell ⟨g, i.toNat * 5 + 1, none⟩ (.int .i64 2)).setCell ⟨g, i.toNat * 5 + 1, none⟩ (.int .i64 4)).setCell ⟨g, i.toNat * 5 + 3, none⟩ (.int .i64 opt)) := by
  have hV : Below w0.heap.size w0 V := below_then hB hB.size hBV
  have a1 := put2 hr i h0 h1 m hm due
  have a2 := put1 a1.1 i h0 h1 _ (rd_set ms i _ h0 h1) 2
  rw [List.set_set] at a2
  have a3 := put1 a2.1 i h0 h1 _ (rd_set ms i _ h0 h1) 4
  rw [List.set_set] at a3
  have a4 := put3 a3.1 i h0 h1 _ (rd_set ms i _ h0 h1) opt
  rw [List.set_set] at a4
  refine ⟨⟨a2.1, (hV.setCell hg0 _).setCell hg0 _, fun k hk hn => ?_⟩, ⟨a4.1, (((hV.setCell hg0 _).setCell hg0 _).setCell hg0 _).setCell hg0 _, fun k hk hn => ?_⟩⟩
  · rw [Below.heap_setCell _ _ _ k hn, Below.heap_setCell _ _ _ k hn]
    exact hBV.block k hk
  · rw [Below.heap_setCell _ _ _ k hn, Below.heap_setCell _ _ _ k hn, Below.heap_setCell _ _ _ k hn, Below.heap_setCell _ _ _ k hn]
    exact hBV.block k hk
theorem rfin2 (hB : Below w0.heap.size w0 w) (hg0 : w0.heap.size ≤ g) (hBV : Below w.heap.size w V) (hr : Kd.R k50 50 V w0.heap.size ok (.slice (some ⟨g, 0, none⟩) ms.length cap) ms) (i : Int) (h0 : 0 ≤ i) (h1 : i < ms.length) (m : S50) (hm : rd_T50 ms i = m) (opt : Int) :
    RPost w0 w g cap ms (ms.set i.toNat (rchgM m 3 0 opt)) ok ((V.setCell ⟨g, i.toNat * 5 + 1, none⟩ (.int .i64 3)).setCell ⟨g, i.toNat * 5 + 2, none⟩ (.int .i64 0)) ∧
    RPost w0 w g cap ms (ms.set i.toNat (rchgM m 5 0 opt)) ok ((V.setCell ⟨g, i.toNat * 5 + 1, none⟩ (.int .i64 5)).setCell ⟨g, i.toNat * 5 + 2, none⟩ (.int .i64 0)) ∧
    RPost w0 w g cap ms (ms.set i.toNat (rchgM m 6 0 opt)) ok ((V.setCell ⟨g, i.toNat * 5 + 1, none⟩ (.int .i64 6)).setCell ⟨g, i.toNat * 5 + 3, none⟩ (.int .i64 opt)) := by
  have hV : Below w0.heap.size w0 V := below_then hB hB.size hBV
  have a1 := fun s => put1 hr i h0 h1 m hm s
  have a2 := fun s => put2 (a1 s).1 i h0 h1 _ (rd_set ms i _ h0 h1) 0
  have a3 := put3 (a1 6).1 i h0 h1 _ (rd_set ms i _ h0 h1) opt
  simp only [List.set_set] at a2 a3
  refine ⟨⟨(a2 3).1, (hV.setCell hg0 _).setCell hg0 _, fun k hk hn => ?_⟩, ⟨(a2 5).1, (hV.setCell hg0 _).setCell hg0 _, fun k hk hn => ?_⟩, ⟨a3.1, (hV.setCell hg0 _).setCell hg0 _, fun k hk hn => ?_⟩⟩
  all_goals rw [Below.heap_setCell _ _ _ k hn, Below.heap_setCell _ _ _ k hn]
  all_goals exact hBV.block k hk
end
set_option maxHeartbeats 8000000 in
set_option maxRecDepth 100000 in
theorem rchange_ok (g gO : Nat) (i : Int) (cap : Nat) (ms : List S50) (ok : Nat → Prop) (kind day id opt d ans app : Int) (v u : Value) (ad : Int × Int) (w0 w : World) (hB : Below w0.heap.size w0 w) (h0 : 0 ≤ i) (h1 : i < ms.length)
    (hk : kind = 2 ∨ kind = 3 ∨ kind = 4 ∧ 0 ≤ opt ∧ opt < 4 ∨ kind = 5 ∨ kind = 6 ∧ 0 ≤ opt ∧ opt < 4)
    (hO : w.heap[gO]? = some (.cells #[.int .i64 d, .int .i64 ans, .int .i64 app, v, u] 30 (0, 0)))
    (hr : Kd.R k50 50 w w0.heap.size ok (.slice (some ⟨g, 0, none⟩) ms.length cap) ms)
    (ha : if kind = 2 ∨ kind = 4 then RAddAt w day (if kind = 2 then ans else app) v ad else ad = (0, 0)) (he : ad.2 = 0) :
    Calls Try.prog 49 #[.pointer (some ⟨gO, 0, none⟩), .pointer (some ⟨g, i.toNat * 5, none⟩), .agg #[.int .i64 kind, .int .i64 day, .int .i64 id, .int .i64 opt]] w fun e w' => e = .returned (.int .i64 0) ∧ RPost w0 w g cap ms (ms.set i.toNat (rchgM (rd_T50 ms i) kind ad.1 opt)) ok w' := by
  have hu := Try.underlying47
  have hu2 := Try.underlying27
  have hu3 := Try.underlying30
  have hu4 := Try.underlying50
  have hg0 : w0.heap.size ≤ g := by
    rcases Kd.R_base2 hr with h | ⟨k, h, hk⟩
    · simp [Value.ownBlock] at h
    · have : g = k := by simpa [Value.ownBlock] using h
      omega
  generalize hm : rd_T50 ms i = m at *
  have B1 : Below w.heap.size w (w.alloc (.cells #[.int .i64 kind, .int .i64 day, .int .i64 id, .int .i64 opt] 47 (0, 0))) := below_alloc (Below.refl _ _) _
  have K1 := blk_new w (.cells #[.int .i64 kind, .int .i64 day, .int .i64 id, .int .i64 opt] 47 (0, 0))
  have KO := blk_below hO B1
  have R1 := Kd.R_below hr B1
  have hgl : g < w.heap.size := World.block_lt_of_cell? w _ (elm hr i h0 h1 m hm).1
  have ng : g ≠ w.heap.size := by omega
  obtain ⟨f0, f1, f2, f3⟩ := cells4 ⟨K1⟩
  obtain ⟨o0, o1, o2, o3, o4⟩ := cells5 ⟨KO⟩
  obtain ⟨a1, a2⟩ := ad
  obtain rfl : a2 = 0 := he
  rcases hk with rfl | rfl | ⟨rfl, hk0, hk1⟩ | rfl | ⟨rfl, hk0, hk1⟩
  · rw [if_pos (.inl rfl), if_pos rfl] at ha
    go_enter Try.func49, Try.ntmps49
    go_upto_region 9 with (fail)
    generalize w.alloc (.cells #[.int .i64 2, .int .i64 day, .int .i64 id, .int .i64 opt] 47 (0, 0)) = W1 at *
    have hA := ha W1.drew (below_drew1 B1)
    have B2 := below_drew1 B1
    have R2 := Kd.R_drew R1
    clear ha hO
    go_region_held3 (fun w_ => w_.cell? ⟨w.heap.size, 0, none⟩ = some (.int .i64 2) ∧ w_.cell? ⟨w.heap.size, 1, none⟩ = some (.int .i64 day) ∧ w_.cell? ⟨gO, 3, none⟩ = some v) (first | exact ⟨f0, f1, o3⟩ | exact ⟨f0', f1', o3'⟩ | go_keep) (first | (go_at_call 61; refine hA.mono ?_; rintro e w2 ⟨rfl, hb⟩; have f0' := pw_cell_below hb (show W1.drew.cell? _ = _ from f0); have f1' := pw_cell_below hb (show W1.drew.cell? _ = _ from f1); have o3' := pw_cell_below hb (show W1.drew.cell? _ = _ from o3)))
    obtain ⟨e1, e2, e3, e4, e5, e6⟩ := elm (Kd.R_below R2 hb) i h0 h1 m hm
    go_wp2
    go_ret
    exact ⟨rfl, (rfin hB hg0 (below_step B2 hb) (Kd.R_below R2 hb) i h0 h1 m hm a1 opt).1⟩
  · rw [if_neg (by decide)] at ha
    obtain ⟨rfl, -⟩ := Prod.mk.inj ha
    obtain ⟨e1, e2, e3, e4, e5, e6⟩ := elm R1 i h0 h1 m hm
    go_enter Try.func49, Try.ntmps49
    go_upto_region 18 with (fail)
    generalize w.alloc (.cells #[.int .i64 3, .int .i64 day, .int .i64 id, .int .i64 opt] 47 (0, 0)) = W1 at *
    go_wp2
    go_ret
    exact ⟨rfl, (rfin2 hB hg0 B1 R1 i h0 h1 m hm opt).1⟩
  · rw [if_pos (.inr rfl), if_neg (by decide)] at ha
    have hop := option_some opt (w.alloc (.cells #[.int .i64 4, .int .i64 day, .int .i64 id, .int .i64 opt] 47 (0, 0)))
    rw [decide_eq_true (⟨hk0, hk1⟩ : 0 ≤ opt ∧ opt < 4)] at hop
    go_enter Try.func49, Try.ntmps49
    go_upto_region 9 with (go_at_call 59; refine hop.mono ?_; rintro e w2 ⟨rfl, hb⟩; have f0' := pw_cell_below hb f0; have f1' := pw_cell_below hb f1; have f3' := pw_cell_below hb f3; have o1' := pw_cell_below hb o1; have o2' := pw_cell_below hb o2; have o3' := pw_cell_below hb o3)
    have B2 := below_step B1 hb
    have hA := ha w2.drew (below_drew1 B2)
    have B3 := below_drew1 B2
    have R2 := Kd.R_drew (Kd.R_below R1 hb)
    clear ha hO hop
    go_region_held3 (fun w_ => w_.cell? ⟨w.heap.size, 0, none⟩ = some (.int .i64 4) ∧ w_.cell? ⟨w.heap.size, 1, none⟩ = some (.int .i64 day) ∧ w_.cell? ⟨w.heap.size, 3, none⟩ = some (.int .i64 opt) ∧ w_.cell? ⟨gO, 3, none⟩ = some v) (first | exact ⟨f0', f1', f3', o3'⟩ | exact ⟨f0'', f1'', f3'', o3''⟩ | go_keep) (first | (go_at_call 61; refine hA.mono ?_; rintro e w3 ⟨rfl, hb3⟩; have f0'' := pw_cell_below hb3 (show w2.drew.cell? _ = _ from f0'); have f1'' := pw_cell_below hb3 (show w2.drew.cell? _ = _ from f1'); have f3'' := pw_cell_below hb3 (show w2.drew.cell? _ = _ from f3'); have o3'' := pw_cell_below hb3 (show w2.drew.cell? _ = _ from o3')))
    obtain ⟨e1, e2, e3, e4, e5, e6⟩ := elm (Kd.R_below R2 hb3) i h0 h1 m hm
    go_wp2
    go_ret
    exact ⟨rfl, (rfin hB hg0 (below_step B3 hb3) (Kd.R_below R2 hb3) i h0 h1 m hm a1 opt).2⟩
  · rw [if_neg (by decide)] at ha
    obtain ⟨rfl, -⟩ := Prod.mk.inj ha
    obtain ⟨e1, e2, e3, e4, e5, e6⟩ := elm R1 i h0 h1 m hm
    go_enter Try.func49, Try.ntmps49
    go_upto_region 21 with (fail)
    generalize w.alloc (.cells #[.int .i64 5, .int .i64 day, .int .i64 id, .int .i64 opt] 47 (0, 0)) = W1 at *
    go_wp2
    go_ret
    exact ⟨rfl, (rfin2 hB hg0 B1 R1 i h0 h1 m hm opt).2.1⟩
  · rw [if_neg (by decide)] at ha
    obtain ⟨rfl, -⟩ := Prod.mk.inj ha
    have hop := option_some opt (w.alloc (.cells #[.int .i64 6, .int .i64 day, .int .i64 id, .int .i64 opt] 47 (0, 0)))
    rw [decide_eq_true (⟨hk0, hk1⟩ : 0 ≤ opt ∧ opt < 4)] at hop
    go_enter Try.func49, Try.ntmps49
    go_wp2_with (go_at_call 59; refine hop.mono ?_; rintro e w2 ⟨rfl, hb⟩; have R2 := Kd.R_below R1 hb; obtain ⟨e1, e2, e3, e4, e5, e6⟩ := elm R2 i h0 h1 m hm; have f0' := pw_cell_below hb f0; have f3' := pw_cell_below hb f3)
    go_ret
    exact ⟨rfl, (rfin2 hB hg0 (below_step B1 hb) R2 i h0 h1 m hm opt).2.2⟩
end Go.Proofs.Ytpfiecjacpbhkaa.D

namespace Go.Proofs.Ytpfiecjacpbhkaa.D
open Go.RowKit Go.Proofs.YtpfiecjacpbhkaaW.PrintWords Go.Proofs.YtpfiecjacpbhkaaW.PrintLast Go.Proofs.YtpfiecjacpbhkaaW.PrintMore
set_option linter.unusedVariables false
set_option linter.unusedSimpArgs false
def ref_File.tail (k : Nat) (day ans app : Int) (hs : List Int) (ms : List S50) (rl : List S52) (kind at_ id opt : Int) : Option Dk :=
  if kind < 1 ∨ 6 < kind then some (dkErr 1)
  else if ms.length < 4611686018427387904 then
    if kind = 1 then if (openF ms id).2 = 0 then some (day, ans, app, hs, (openF ms id).1, rl, 0) else some (dkErr (openF ms id).2)
    else if fnd id ms 0 < 0 then some (dkErr 11)
    else if (rd_T50 ms (fnd id ms 0)).f1 ≠ kind - 1 then some (dkErr 13)
    else if (kind = 4 ∨ kind = 6) ∧ (opt < 0 ∨ 4 ≤ opt) then some (dkErr 41)
    else (if kind = 2 ∨ kind = 4 then F.insolvencyref1_AddDays.f k at_ (if kind = 2 then ans else app) hs else some (0, 0)).bind fun ad =>
      if ad.2 ≠ 0 then some (dkErr ad.2)
      else if kind = 6 then if rl.length < 5864062014805 then some (day, ans, app, hs, ms.set (fnd id ms 0).toNat (rchgM (rd_T50 ms (fnd id ms 0)) kind ad.1 opt), rl ++ [⟨id, at_, opt⟩], 0) else none
      else some (day, ans, app, hs, ms.set (fnd id ms 0).toNat (rchgM (rd_T50 ms (fnd id ms 0)) kind ad.1 opt), rl, 0)
  else none
def ref_File.f (k : Nat) (a0 a1 a2 : Int) (l3 : List Int) (l4 : List S50) (kind at_ id opt : Int) : Option Dk :=
  (insolvencyref33_Advance.f k a0 a1 a2 l3 l4 at_).bind fun r => if r.2.2.2.2.2.2 = 0 then ref_File.tail k r.1 r.2.1 r.2.2.1 r.2.2.2.1 r.2.2.2.2.1 r.2.2.2.2.2.1 kind at_ id opt else some (dkErr r.2.2.2.2.2.2)
theorem ref_File.mono : ∀ a0 a1 a2 a3 a4 a5 a6 a7 a8 k, LeO (ref_File.f k a0 a1 a2 a3 a4 a5 a6 a7 a8) (ref_File.f (k + 1) a0 a1 a2 a3 a4 a5 a6 a7 a8) := by
  intro a0 a1 a2 a3 a4 a5 a6 a7 a8 k
  unfold ref_File.f ref_File.tail
  repeat' first
  | (with_reducible exact insolvencyref33_Advance.mono _ _ _ _ _ _ _)
  | (with_reducible exact F.insolvencyref1_AddDays.mono _ _ _ _)
  | (with_reducible exact LeO.refl _)
  | (with_reducible exact LeO.none _)
  | (with_reducible refine LeO.ite ?_ ?_)
  | (with_reducible refine LeO.bind ?_ (fun _ => ?_))
set_option maxHeartbeats 16000000 in
set_option maxRecDepth 100000 in
theorem rfile_walk (k : Nat) (d a p : Int) (v u : Value) (kind day id opt : Int) (r : Dk) (r' : Dk) (w : World)
    (hA : Calls Try.prog 27 #[.agg #[.int .i64 d, .int .i64 a, .int .i64 p, v, u], .int .i64 day] (filWorld w d a p v u kind day id opt) (FileEnd (filWorld w d a p v u kind day id opt) r))
    (h : (if r.2.2.2.2.2.2 = 0 then ref_File.tail k r.1 r.2.1 r.2.2.1 r.2.2.2.1 r.2.2.2.2.1 r.2.2.2.2.2.1 kind day id opt else some (dkErr r.2.2.2.2.2.2)) = some r') :
    Calls Try.prog 28 #[.agg #[.int .i64 d, .int .i64 a, .int .i64 p, v, u], .agg #[.int .i64 kind, .int .i64 day, .int .i64 id, .int .i64 opt]] w (FileEnd w r') := by
  have hu := Try.underlying47
  have hu2 := Try.underlying27
  have hu3 := Try.underlying30
  have hu4 := Try.underlying28
  have B0 := fil_below w d a p v u kind day id opt
  have K2 := fil_res w d a p v u kind day id opt
  have K1 := fil_file w d a p v u kind day id opt
  obtain ⟨r1, r2, r3, hs, ms, rl, r7⟩ := r
  go_enter Try.func28, Try.ntmps28
  go_upto_region 2 with (go_at_call 27; change Calls _ _ _ (filWorld w d a p v u kind day id opt) _; refine hA.mono ?_; rintro e w1 ⟨v3, v4, v5, rfl, h3, h4, h5, hb⟩; have K3 := blk_below K2 hb; have K4 := blk_below K1 hb; obtain ⟨A3, c3, rfl⟩ := Kd.R_slice h3; obtain ⟨A4, c4, rfl⟩ := Kd.R_slice h4; obtain ⟨A5, c5, rfl⟩ := Kd.R_slice h5)
  change Code.wp _ _ _ _ (w1.alloc (.cells #[.int .i64 r1, .int .i64 r2, .int .i64 r3, .slice A3 hs.length c3, .slice A4 ms.length c4] 30 (0, 0)))
  have KO := blk_new w1 (.cells #[.int .i64 r1, .int .i64 r2, .int .i64 r3, .slice A3 hs.length c3, .slice A4 ms.length c4] 30 (0, 0))
  have KZ := blk_alloc K3 (.cells #[.int .i64 r1, .int .i64 r2, .int .i64 r3, .slice A3 hs.length c3, .slice A4 ms.length c4] 30 (0, 0))
  have KF := blk_alloc K4 (.cells #[.int .i64 r1, .int .i64 r2, .int .i64 r3, .slice A3 hs.length c3, .slice A4 ms.length c4] 30 (0, 0))
  have R3 := Kd.R_alloc (Kd.R_lower h3 B0.size) (.cells #[.int .i64 r1, .int .i64 r2, .int .i64 r3, .slice A3 hs.length c3, .slice A4 ms.length c4] 30 (0, 0))
  have R4 := Kd.R_alloc (Kd.R_lower h4 B0.size) (.cells #[.int .i64 r1, .int .i64 r2, .int .i64 r3, .slice A3 hs.length c3, .slice A4 ms.length c4] 30 (0, 0))
  have R5 := Kd.R_alloc (Kd.R_lower h5 B0.size) (.cells #[.int .i64 r1, .int .i64 r2, .int .i64 r3, .slice A3 hs.length c3, .slice A4 ms.length c4] 30 (0, 0))
  have BW := below_alloc (below_step B0 hb) (.cells #[.int .i64 r1, .int .i64 r2, .int .i64 r3, .slice A3 hs.length c3, .slice A4 ms.length c4] 30 (0, 0))
  have n1 : w1.heap.size ≠ w.heap.size + 1 + 1 := Nat.ne_of_gt (blk_lt K3)
  have n2 : w1.heap.size ≠ w.heap.size + 1 := Nat.ne_of_gt (blk_lt K4)
  have n3 : w.heap.size + 1 ≠ w.heap.size + 1 + 1 := by omega
  have n4 : w.heap.size ≤ w.heap.size + 1 + 1 := by omega
  have n5 : w.heap.size ≤ w1.heap.size := Nat.le_trans n4 (Nat.le_of_lt (blk_lt K3))
  generalize w1.alloc (.cells #[.int .i64 r1, .int .i64 r2, .int .i64 r3, .slice A3 hs.length c3, .slice A4 ms.length c4] 30 (0, 0)) = W2 at *
  generalize w1.heap.size = gO at *
  generalize w.heap.size + 1 + 1 = gZ at *
  generalize w.heap.size + 1 = gB at *
  clear K1 K2 K3 K4 h3 h4 h5 hb hA B0 w1
  obtain ⟨z0, z1, z2, z3, z4⟩ := cells5 ⟨KZ⟩
  obtain ⟨x0, x1, x2, x3, x4⟩ := frz5 ⟨KZ⟩
  by_cases he : r7 = 0
  · rw [if_pos he] at h
    subst he
    obtain ⟨f0, f1, f2, f3⟩ := cells4 ⟨KF⟩
    obtain ⟨o0, o1, o2, o3, o4⟩ := cells5 ⟨KO⟩
    unfold ref_File.tail at h
    by_cases hk : kind < 1 ∨ 6 < kind
    · rw [if_pos hk] at h
      obtain rfl := Option.some.inj h
      clear h
      by_cases h1 : kind < 1
      · have e1 : decide (kind < 1) = true := decide_eq_true h1
        clear hk h1
        go_wp2
        refine bodyPost_ret (results_ctt rfl _ _ gZ 30 _ (0, 0) _ rfl (five_blk KZ _ _ _ _ _) Try.underlying30 rfl (by kernel_rfl)) rfl ?_
        exact end_err _ _ _ _ BW n4
      · have e1 : decide (kind < 1) = false := decide_eq_false h1
        have e2 : decide (6 < kind) = true := decide_eq_true (by omega)
        clear hk h1
        go_wp2
        refine bodyPost_ret (results_ctt rfl _ _ gZ 30 _ (0, 0) _ rfl (five_blk KZ _ _ _ _ _) Try.underlying30 rfl (by kernel_rfl)) rfl ?_
        exact end_err _ _ _ _ BW n4
    rw [if_neg hk] at h
    have e1 : decide (kind < 1) = false := decide_eq_false (by omega)
    have e2 : decide (6 < kind) = false := decide_eq_false (by omega)
    have hC := (Kd.R_reads' R4).2
    by_cases hl : ms.length < 4611686018427387904
    case neg => rw [if_neg hl] at h; cases h
    rw [if_pos hl] at h
    by_cases hk1 : kind = 1
    · rw [if_pos hk1] at h
      subst hk1
      by_cases ho : (openF ms id).2 = 0
      · rw [if_pos ho] at h
        obtain rfl := Option.some.inj h
        have hop := opened_ok gO r1 r2 r3 (.slice A3 hs.length c3) (.slice A4 ms.length c4) ms id w W2 BW n5 KO R4 ho
        clear h hk e1 e2 ho hl hC
        go_wp2_with (go_at_call 46; refine hop.mono ?_; rintro e w3 ⟨u3, rfl, KO3, R43, B3, hsame⟩; have nz := Kd.R_ne R4 KZ (by decide); have nf := Kd.R_ne R4 KF (by decide); have KZ3 := (hsame gZ (blk_lt KZ) (Ne.symm n1) nz).trans KZ; have KF3 := (hsame gB (blk_lt KF) (Ne.symm n2) nf).trans KF; have R33 := R_keep2 R3 hsame KO (by decide) (Kd.R_typed R4) (by decide); have R53 := R_keep2 R5 hsame KO (by decide) (Kd.R_typed R4) (by decide); obtain ⟨z0, z1, z2, z3, z4⟩ := cells5 ⟨KZ3⟩; obtain ⟨x0, x1, x2, x3, x4⟩ := frz5 ⟨KZ3⟩; obtain ⟨o0, o1, o2, o3, o4⟩ := cells5 ⟨KO3⟩; obtain ⟨f0, f1, f2, f3⟩ := cells4 ⟨KF3⟩; obtain ⟨A43, c43, rfl⟩ := Kd.R_slice R43)
        refine bodyPost_ret (results_ctt rfl _ _ gZ 30 _ (0, 0) _ rfl (five_blk KZ3 _ _ _ _ _) Try.underlying30 rfl (by kernel_rfl)) rfl ?_
        exact end_ok _ _ _ _ _ _ _ _ _ _ _ _ #[] B3 n4 KZ3 R33 R43 R53
      · rw [if_neg ho] at h
        obtain rfl := Option.some.inj h
        have hop := opened_err gO r1 r2 r3 (.slice A3 hs.length c3) A4 c4 ms id W2 hC.1 hl KO hC.2 ho
        have he2 : ((openF ms id).2 != 0) = true := by simpa using ho
        clear h hk e1 e2 ho hl hC
        generalize (openF ms id).2 = eo at *
        go_wp2_with (go_at_call 46; refine hop.mono ?_; rintro e w3 ⟨rfl, B3⟩; have KZ3 := blk_below KZ B3; obtain ⟨z0, z1, z2, z3, z4⟩ := cells5 ⟨KZ3⟩; obtain ⟨x0, x1, x2, x3, x4⟩ := frz5 ⟨KZ3⟩)
        refine bodyPost_ret (results_ctt rfl _ _ gZ 30 _ (0, 0) _ rfl (five_blk KZ3 _ _ _ _ _) Try.underlying30 rfl (by kernel_rfl)) rfl ?_
        exact end_err _ _ _ _ (below_step BW B3) n4
    rw [if_neg hk1] at h
    have e3 : (kind == 1) = false := by simpa using hk1
    have hf := matterOf_calls r1 r2 r3 (.slice A3 hs.length c3) A4 c4 ms id W2 hl hC.2
    have hq := fnd_lt id ms 0
    generalize fnd id ms 0 = q at *
    by_cases hq0 : q < 0
    · rw [if_pos hq0] at h
      obtain rfl := Option.some.inj h
      have e4 : decide (q < 0) = true := decide_eq_true hq0
      clear h hk hk1 hl hC hq hq0
      go_wp2_with (go_at_call 47; refine hf.mono ?_; rintro e w3 ⟨rfl, B3⟩; have KZ3 := blk_below KZ B3; obtain ⟨z0, z1, z2, z3, z4⟩ := cells5 ⟨KZ3⟩; obtain ⟨x0, x1, x2, x3, x4⟩ := frz5 ⟨KZ3⟩)
      refine bodyPost_ret (results_ctt rfl _ _ gZ 30 _ (0, 0) _ rfl (five_blk KZ3 _ _ _ _ _) Try.underlying30 rfl (by kernel_rfl)) rfl ?_
      exact end_err _ _ _ _ (below_step BW B3) n4
    rw [if_neg hq0] at h
    have e4 : decide (q < 0) = false := decide_eq_false hq0
    have hqn : q < (ms.length : Int) := by omega
    have hq1 : 0 ≤ q := by omega
    have p1 : (0 ≤ q) = True := eq_true hq1
    have p2 : (q < (ms.length : Int)) = True := eq_true hqn
    obtain ⟨g4, c4', eq4, -, hg4, -⟩ := Kd.R_form R4 (by omega)
    injection eq4 with eA _ eC
    subst eA
    subst eC
    clear hq hq0 hC hl
    have hreq := fun W => required_calls kind W (by omega)
    by_cases hst : (rd_T50 ms q).f1 ≠ kind - 1
    · rw [if_pos hst] at h
      obtain rfl := Option.some.inj h
      have hd8 : ((rd_T50 ms q).f1 != kind - 1) = true := by simpa using hst
      clear h
      go_upto_region 12 with (go_at_call 47; refine hf.mono ?_; rintro e w3 ⟨rfl, B3⟩; have KF3' := blk_below KF B3; obtain ⟨f0, f1, f2, f3⟩ := cells4 ⟨KF3'⟩)
      have KZ3 := blk_below KZ B3
      have KF3 := blk_below KF B3
      have KO3 := blk_below KO B3
      have R43 := Kd.R_below R4 B3
      have hc := (elm R43 q hq1 hqn _ rfl).1
      clear f0 f1 f2 f3 o0 o1 o2 o3 o4 z0 z1 z2 z3 z4 x0 x1 x2 x3 x4 hst
      generalize (rd_T50 ms q).f1 = stt at *
      obtain ⟨f0, f1, f2, f3⟩ := cells4 ⟨KF3⟩
      obtain ⟨o0, o1, o2, o3, o4⟩ := cells5 ⟨KO3⟩
      go_region_held3 (fun w_ => w_.cell? ⟨gB, 0, none⟩ = some (.int .i64 kind) ∧ w_.cell? ⟨gO, 4, none⟩ = some (.slice (some ⟨g4, 0, none⟩) ms.length c4) ∧ w_.cell? ⟨g4, q.toNat * 5 + 1, none⟩ = some (.int .i64 stt)) (first | exact ⟨f0, o4, hc⟩ | exact ⟨f0', o4', hc'⟩ | go_keep)
        (first | (go_at_call 48; refine (hreq _).mono ?_; rintro e w4 ⟨rfl, B4⟩; have f0' := pw_cell_below B4 (show w3.drew.cell? _ = _ from f0); have o4' := pw_cell_below B4 (show w3.drew.cell? _ = _ from o4); have hc' := pw_cell_below B4 (show w3.drew.cell? _ = _ from hc)))
      have KZ4 := blk_below (blk_drew KZ3) B4
      obtain ⟨z0, z1, z2, z3, z4⟩ := cells5 ⟨KZ4⟩
      obtain ⟨x0, x1, x2, x3, x4⟩ := frz5 ⟨KZ4⟩
      go_wp2
      refine bodyPost_ret (results_ctt rfl _ _ gZ 30 _ (0, 0) _ rfl (five_blk KZ4 _ _ _ _ _) Try.underlying30 rfl (by kernel_rfl)) rfl ?_
      exact end_err _ _ _ _ (below_step (below_drew1 (below_step BW B3)) B4) n4
    rw [if_neg hst] at h
    have hst' : (rd_T50 ms q).f1 = kind - 1 := by omega
    clear hst
    have hch : ∀ W, Below W2.heap.size W2 W → Calls Try.prog 49 #[.pointer (some ⟨gO, 0, none⟩), .pointer (some ⟨g4, q.toNat * 5, none⟩), .agg #[.int .i64 kind, .int .i64 day, .int .i64 id, .int .i64 opt]] W fun e w' => ∃ c, e = .returned (.int .i64 c) ∧ (∀ k, k < W.heap.size → k ≠ g4 → w'.heap[k]? = W.heap[k]?) ∧
        (c ≠ 0 ∧ r' = dkErr c ∧ Below W.heap.size W w' ∨ c = 0 ∧ ∃ x, r' = (r1, r2, r3, hs, ms.set q.toNat x, if kind = 6 then rl ++ [⟨id, day, opt⟩] else rl, 0) ∧ (kind = 6 → rl.length < 5864062014805) ∧
          Kd.R k50 50 w' w.heap.size (fun _ => True) (.slice (some ⟨g4, 0, none⟩) ms.length c4) (ms.set q.toNat x) ∧ Below w.heap.size w w') := by
      intro W hW
      have R4W := Kd.R_below R4 hW
      have KOW := blk_below KO hW
      by_cases hop : (kind = 4 ∨ kind = 6) ∧ (opt < 0 ∨ 4 ≤ opt)
      · rw [if_pos hop] at h
        obtain rfl := Option.some.inj h
        refine (rchange_opt g4 (q.toNat * 5) gO kind day id opt W hop.1 (by omega)).mono ?_
        rintro e w' ⟨rfl, hb⟩
        exact ⟨41, rfl, fun k hk _ => hb.block k hk, .inl ⟨by decide, rfl, hb⟩⟩
      rw [if_neg hop] at h
      obtain ⟨ad, had, h⟩ := Option.bind_eq_some_iff.mp h
      have hCh := (Kd.R_reads' R3).2
      have hAdd : kind = 2 ∨ kind = 4 → RAddAt W day (if kind = 2 then r2 else r3) (.slice A3 hs.length c3) ad := by
        intro h24 W1 hW1
        rw [if_pos h24] at had
        exact (F.insolvencyref1_AddDays.calls k day (if kind = 2 then r2 else r3) A3 c3 hs ad.1 ad.2 W1 (Kd.C_below (Kd.C_below hCh.2 hW) hW1) hCh.1 had).mono (fun e w' ⟨h1, h2⟩ => ⟨h1, h2.below⟩)
      by_cases ha : ad.2 ≠ 0
      · rw [if_pos ha] at h
        obtain rfl := Option.some.inj h
        have h24 : kind = 2 ∨ kind = 4 := by
          by_cases hh : kind = 2 ∨ kind = 4
          · exact hh
          · rw [if_neg hh] at had
            obtain rfl := Option.some.inj had
            exact absurd rfl ha
        refine (rchange_add g4 (q.toNat * 5) gO kind day id opt r1 r2 r3 (.slice A3 hs.length c3) _ ad W (by omega) KOW (hAdd h24) ha).mono ?_
        rintro e w' ⟨rfl, hb⟩
        exact ⟨ad.2, rfl, fun k hk _ => hb.block k hk, .inl ⟨ha, rfl, hb⟩⟩
      rw [if_neg ha] at h
      have ha0 : ad.2 = 0 := by omega
      have hA2 : if kind = 2 ∨ kind = 4 then RAddAt W day (if kind = 2 then r2 else r3) (.slice A3 hs.length c3) ad else ad = (0, 0) := by
        by_cases hh : kind = 2 ∨ kind = 4
        · rw [if_pos hh]; exact hAdd hh
        · rw [if_neg hh] at had ⊢
          exact (Option.some.inj had).symm
      refine (rchange_ok g4 gO q c4 ms (fun _ => True) kind day id opt r1 r2 r3 (.slice A3 hs.length c3) _ ad w W (below_step BW hW) hq1 hqn (by omega) KOW R4W hA2 ha0).mono ?_
      rintro e w' ⟨rfl, hR, hB, hs2⟩
      by_cases h6 : kind = 6
      · rw [if_pos h6] at h
        by_cases hrl : rl.length < 5864062014805
        · rw [if_pos hrl] at h
          obtain rfl := Option.some.inj h
          exact ⟨0, rfl, hs2, .inr ⟨rfl, _, by rw [if_pos h6], fun _ => hrl, hR, hB⟩⟩
        · rw [if_neg hrl] at h; cases h
      · rw [if_neg h6] at h
        obtain rfl := Option.some.inj h
        exact ⟨0, rfl, hs2, .inr ⟨rfl, _, by rw [if_neg h6], fun h => absurd h h6, hR, hB⟩⟩
    clear h hk hk1
    have hd8 : ((kind - 1) != (kind - 1)) = false := by simp
    go_upto_region 12 with (go_at_call 47; refine hf.mono ?_; rintro e w3a ⟨rfl, B3a⟩; have KF3' := blk_below KF B3a; obtain ⟨f0, f1, f2, f3⟩ := cells4 ⟨KF3'⟩)
    have KF3a := blk_below KF B3a
    have KO3a := blk_below KO B3a
    have hc := (elm (Kd.R_below R4 B3a) q hq1 hqn _ rfl).1
    rw [hst'] at hc
    clear f0 f1 f2 f3 o0 o1 o2 o3 o4 z0 z1 z2 z3 z4 x0 x1 x2 x3 x4
    obtain ⟨f0, f1, f2, f3⟩ := cells4 ⟨KF3a⟩
    obtain ⟨o0, o1, o2, o3, o4⟩ := cells5 ⟨KO3a⟩
    generalize hkm : kind - 1 = km at *
    go_region_held3 (fun w_ => w_.cell? ⟨gB, 0, none⟩ = some (.int .i64 kind) ∧ w_.cell? ⟨gO, 4, none⟩ = some (.slice (some ⟨g4, 0, none⟩) ms.length c4) ∧ w_.cell? ⟨g4, q.toNat * 5 + 1, none⟩ = some (.int .i64 km)) (first | exact ⟨f0, o4, hc⟩ | exact ⟨f0', o4', hc'⟩ | go_keep)
      (first | (go_at_call 48; refine (hreq _).mono ?_; rintro e w3 ⟨rfl, B4a⟩; have f0' := pw_cell_below B4a (show w3a.drew.cell? _ = _ from f0); have o4' := pw_cell_below B4a (show w3a.drew.cell? _ = _ from o4); have hc' := pw_cell_below B4a (show w3a.drew.cell? _ = _ from hc)))
    have B3 : Below W2.heap.size W2 w3 := below_step (below_drew1 B3a) B4a
    clear f0 f1 f2 f3 o0 o1 o2 o3 o4 hc f0' o4' hc' KF3a KO3a B3a B4a
    have KZ3 := blk_below KZ B3
    have KF3 := blk_below KF B3
    have KO3 := blk_below KO B3
    obtain ⟨f0, f1, f2, f3⟩ := cells4 ⟨KF3⟩
    obtain ⟨o0, o1, o2, o3, o4⟩ := cells5 ⟨KO3⟩
    go_upto_region 9 with (fail)
    have R33 := Kd.R_below R3 B3
    have R43 := Kd.R_below R4 B3
    have R53 := Kd.R_below R5 B3
    have hcal := hch w3.drew (below_drew1 B3)
    clear hch hkm hd8
    have nF : gB ≠ g4 := fun he => Kd.R_ne R4 KF (by decide) (by rw [he]; simp [Value.ownBlock])
    have nO : gO ≠ g4 := fun he => Kd.R_ne R4 KO (by decide) (by rw [he]; simp [Value.ownBlock])
    have nZ : gZ ≠ g4 := fun he => Kd.R_ne R4 KZ (by decide) (by rw [he]; simp [Value.ownBlock])
    go_region_held3 (fun w_ => w_.cell? ⟨gB, 0, none⟩ = some (.int .i64 kind) ∧ w_.cell? ⟨gB, 1, none⟩ = some (.int .i64 day) ∧ w_.cell? ⟨gB, 2, none⟩ = some (.int .i64 id) ∧ w_.cell? ⟨gB, 3, none⟩ = some (.int .i64 opt) ∧ w_.cell? ⟨gO, 4, none⟩ = some (.slice (some ⟨g4, 0, none⟩) ms.length c4)) (first | exact ⟨f0, f1, f2, f3, o4⟩ | exact ⟨f0', f1', f2', f3', o4'⟩ | go_keep)
      (first | (go_at_call 49; refine hcal.mono ?_; rintro e w4 ⟨c, rfl, hs4, hcc⟩; have KF4 := (hs4 gB (blk_lt (blk_drew KF3)) nF).trans (blk_drew KF3); have KO4 := (hs4 gO (blk_lt (blk_drew KO3)) nO).trans (blk_drew KO3); have KZ4 := (hs4 gZ (blk_lt (blk_drew KZ3)) nZ).trans (blk_drew KZ3); obtain ⟨f0', f1', f2', f3'⟩ := cells4 ⟨KF4⟩; obtain ⟨o0', o1', o2', o3', o4'⟩ := cells5 ⟨KO4⟩))
    obtain ⟨z0, z1, z2, z3, z4⟩ := cells5 ⟨KZ4⟩
    obtain ⟨x0, x1, x2, x3, x4⟩ := frz5 ⟨KZ4⟩
    clear f0 f1 f2 f3 o0 o1 o2 o3 o4 p1 p2
    rcases hcc with ⟨hc0, rfl, hb4⟩ | ⟨rfl, x, hr', hrl, R44, B4⟩
    · have he2 : (c != 0) = true := by simpa using hc0
      clear hc0
      go_wp2
      refine bodyPost_ret (results_ctt rfl _ _ gZ 30 _ (0, 0) _ rfl (five_blk KZ4 _ _ _ _ _) Try.underlying30 rfl (by kernel_rfl)) rfl ?_
      exact end_err _ _ _ _ (below_step (below_drew1 (below_step BW B3)) hb4) n4
    obtain ⟨gc, hgc⟩ := Kd.R_typed (Kd.R_drew R43) g4 (by simp [Value.ownBlock])
    have R34 := R_keep2 (u := .slice none 0 0) (t2 := 0) (Kd.R_drew R33) (fun k h1 h2 _ => hs4 k h1 h2) hgc (by decide) (fun k hk => by simp [Value.ownBlock] at hk) (by decide)
    have R54 := R_keep2 (u := .slice none 0 0) (t2 := 0) (Kd.R_drew R53) (fun k h1 h2 _ => hs4 k h1 h2) hgc (by decide) (fun k hk => by simp [Value.ownBlock] at hk) (by decide)
    by_cases h6 : kind = 6
    · subst h6
      rw [if_pos rfl] at hr'
      subst hr'
      have hrl := hrl rfl
      have NF := Kd.R_ne R54 KF4 (by decide)
      have NO := Kd.R_ne R54 KO4 (by decide)
      have NZ := Kd.R_ne R54 KZ4 (by decide)
      go_wp2_with (first | ((with_reducible refine gate_builtin (b := .append) (xs := #[.tmp 69, .tmp 77]) rfl ?_); at_builtin; refine Kd.R_append k52 (w0 := w) w.heap.size rfl (.tmp 69) (.tmp 77) 32 52 (.agg #[(.int .i64 0), (.int .i64 0), (.int .i64 0)]) 24 rfl Try.underlying32 info52 rfl (by decide) (by omega) _ rl (⟨id, day, opt⟩ : S52) [.int .i64 id, .int .i64 day, .int .i64 opt] (fun _ => True) (fun _ => False) rfl rfl ?aP (fun _ hk => hk.elim) ?aF ?aO ?aB ?aS ?aL ?_; (case aP => exact k52_mkM _ _ _ (⟨id, day, opt⟩ : S52)); (case aB => exact B4); (case aF => exact (fun _ _ => trivial)); (case aO => exact R54); (case aS => exact B4.size); (case aL => omega); intro v5 w5 ho5 hb5 hgr hat; change w4.grownBy w5 (Value.slice A5 rl.length c5).ownBlock at hgr; obtain ⟨A6, c6, rfl⟩ := Kd.R_slice ho5; have KZ5 := blk_grown KZ4 hgr NZ; have KO5 := blk_grown KO4 hgr NO; obtain ⟨z0, z1, z2, z3, z4⟩ := cells5 ⟨KZ5⟩; obtain ⟨x0, x1, x2, x3, x4⟩ := frz5 ⟨KZ5⟩; obtain ⟨o0', o1', o2', o3', o4'⟩ := cells5 ⟨KO5⟩))
      refine bodyPost_ret (results_ctt rfl _ _ gZ 30 _ (0, 0) _ rfl (five_blk KZ5 _ _ _ _ _) Try.underlying30 rfl (by kernel_rfl)) rfl ?_
      simp only [List.length_append, List.length_cons, List.length_nil, Nat.zero_add] at ho5
      have R35 := Kd.R_over' (v := .slice A5 rl.length c5) R34 (Kd.R_typed R54) (by decide) hgr
      have R45 := Kd.R_over' (v := .slice A5 rl.length c5) R44 (Kd.R_typed R54) (by decide) hgr
      exact end_ok _ _ _ _ _ _ _ _ _ _ _ _ #[] hb5 n4 KZ5 R35 R45 (Kd.R_mono ho5 (fun _ _ => trivial))
    · have e6 : (kind == 6) = false := by simpa using h6
      rw [if_neg h6] at hr'
      subst hr'
      clear h6 hrl
      go_wp2
      refine bodyPost_ret (results_ctt rfl _ _ gZ 30 _ (0, 0) _ rfl (five_blk KZ4 _ _ _ _ _) Try.underlying30 rfl (by kernel_rfl)) rfl ?_
      exact end_ok _ _ _ _ _ _ _ _ _ _ _ _ #[] B4 n4 KZ4 R34 R44 R54
  · rw [if_neg he] at h
    obtain rfl := Option.some.inj h
    have he2 : (r7 != 0) = true := by simpa using he
    clear he h
    go_wp2
    refine bodyPost_ret (results_ctt rfl _ _ gZ 30 _ (0, 0) _ rfl (five_blk KZ _ _ _ _ _) Try.underlying30 rfl (by kernel_rfl)) rfl ?_
    exact end_err _ _ _ _ BW n4
theorem ref_File.calls (k : Nat) (a0_0 : Int) (a0_1 : Int) (a0_2 : Int) (A0_3 : Option Addr) (c0_3 : Nat) (l0_3 : List Int) (A0_4 : Option Addr) (c0_4 : Nat) (l0_4 : List S50) (a1_0 a1_1 a1_2 a1_3 : Int) (r1 : Int) (r2 : Int) (r3 : Int) (r4 : List Int) (r5 : List S50) (r6 : List S52) (r7 : Int) (w : World) (hr0_3 : Kd.C (Kd.int .i64) w A0_3 l0_3.length l0_3) (hc0_3 : l0_3.length ≤ c0_3) (hr0_4 : Kd.C k50 w A0_4 l0_4.length l0_4) (hc0_4 : l0_4.length ≤ c0_4) (h : ref_File.f k a0_0 a0_1 a0_2 l0_3 l0_4 a1_0 a1_1 a1_2 a1_3 = some (r1, r2, r3, r4, r5, r6, r7)) :
    Calls Try.prog 28 #[.agg #[.int .i64 a0_0, .int .i64 a0_1, .int .i64 a0_2, .slice A0_3 l0_3.length c0_3, .slice A0_4 l0_4.length c0_4], .agg #[.int .i64 a1_0, .int .i64 a1_1, .int .i64 a1_2, .int .i64 a1_3]] w fun e w' => ∃ v3_ v4_ v5_ : Value, e = .returned (.tuple #[.agg #[.int .i64 r1, .int .i64 r2, .int .i64 r3, v3_, v4_], v5_, .int .i64 r7]) ∧ Kd.R (Kd.int .i64) 3 w' w.heap.size (fun _ => True) v3_ r4 ∧ Kd.R k50 50 w' w.heap.size (fun _ => True) v4_ r5 ∧ Kd.R k52 52 w' w.heap.size (fun _ => True) v5_ r6 ∧ Below w.heap.size w w' := by
  unfold ref_File.f at h
  obtain ⟨r, hr, h⟩ := Option.bind_eq_some_iff.mp h
  have hb := fil_below w a0_0 a0_1 a0_2 (.slice A0_3 l0_3.length c0_3) (.slice A0_4 l0_4.length c0_4) a1_0 a1_1 a1_2 a1_3
  have hA := insolvencyref33_Advance.calls k a0_0 a0_1 a0_2 A0_3 c0_3 l0_3 A0_4 c0_4 l0_4 a1_1 r.1 r.2.1 r.2.2.1 r.2.2.2.1 r.2.2.2.2.1 r.2.2.2.2.2.1 r.2.2.2.2.2.2 _ (Kd.C_below hr0_3 hb) hc0_3 (Kd.C_below hr0_4 hb) hc0_4 hr
  exact rfile_walk k a0_0 a0_1 a0_2 _ _ a1_0 a1_1 a1_2 a1_3 r (r1, r2, r3, r4, r5, r6, r7) w hA h
end Go.Proofs.Ytpfiecjacpbhkaa.D

namespace Go.Proofs.Ytpfiecjacpbhkaa.D
open Go.RowKit Go.Maps Go.Proofs.YtpfiecjacpbhkaaW.PrintWords Go.Proofs.YtpfiecjacpbhkaaW.PrintLast Go.Proofs.YtpfiecjacpbhkaaW.PrintMore
set_option linter.unusedVariables false
set_option linter.unusedSimpArgs false
def matGo : List S83 → Int → (Int → Int) → List S47
  | [], _, _ => []
  | x :: r, day, st =>
    if 6 ≤ st (wrap64 (Int.tmod x.f2 4)) then matGo r (wrap64 (day + wrap64 (Int.tmod x.f1 4))) st
    else ⟨wrap64 (1 + st (wrap64 (Int.tmod x.f2 4))), wrap64 (day + wrap64 (Int.tmod x.f1 4)), wrap64 (Int.tmod x.f2 4), wrap64 (Int.tmod x.f3 4)⟩ ::
      matGo r (wrap64 (day + wrap64 (Int.tmod x.f1 4))) (fun i => if i = wrap64 (Int.tmod x.f2 4) then wrap64 (st (wrap64 (Int.tmod x.f2 4)) + 1) else st i)
def law0_Matters.f (k : Nat) (l0 : List S83) : Option (List S47) := some (matGo (l0.take 24) 0 (fun _ => 0))
theorem law0_Matters.mono : ∀ a0 k, LeO (law0_Matters.f k a0) (law0_Matters.f (k + 1) a0) := fun _ _ => LeO.refl _
theorem undMapI : Try.prog.underlying 82 = some (.map 3 3) := by kernel_rfl
theorem undI : Try.prog.underlying 3 = some (.int .i64) := by kernel_rfl
theorem zeroI (w : World) : (zeroValue 3).run Try.prog w = .ok (.int .i64 0) w := by kernel_rfl
theorem keyI (i : Int) (hi : (Lit.int .i64 i).wf = true) : keyOf Try.prog 3 (.int .i64 i) = some (.int .i64 i) := by simp [keyOf, undI, mapKey, hi]
theorem lawI : Keyed Try.prog 3 := int_keyed undI
theorem wf64 (x : Int) : (Lit.int .i64 (wrap64 x)).wf = true := by
  simp [Lit.wf, IntKind.min, IntKind.max, IntKind.signed, IntKind.bits]
  unfold wrap64
  omega
def IsTab (W : World) (g : Nat) (f : Int → Int) (m : Nat) : Prop :=
  ∃ n D, n ≤ m ∧ W.ownsMap Try.prog 3 (plainElem (H := Unit) Try.prog 3) g n D ∧ ∀ i : Int, (Lit.int .i64 i).wf = true → D.atKey (.int .i64 i) (.lit (.int .i64 0)) = .lit (.int .i64 (f i))
theorem IsTab.lt {W : World} {g m : Nat} {f : Int → Int} (h : IsTab W g f m) : g < W.heap.size := by
  obtain ⟨n, D, _, h2, _⟩ := h
  exact h2.lt
theorem IsTab.made (w : World) : IsTab (w.alloc (.map #[] 0)) w.heap.size (fun _ => 0) 0 := ⟨0, .map [], Nat.le_refl _, World.ownsMap_made w _ _ _, fun i _ => by simp [DataW.atKey]⟩
theorem IsTab.alloc {W : World} {g m : Nat} {f : Int → Int} (h : IsTab W g f m) (o : Obj) : IsTab (W.alloc o) g f m := by
  obtain ⟨n, D, h1, h2, h3⟩ := h
  exact ⟨n, D, h1, h2.alloc o, h3⟩
theorem IsTab.grown {W W' : World} {row : Option Nat} {g m : Nat} {f : Int → Int} (h : IsTab W g f m) (hg : W.grownBy W' row) (hne : some g ≠ row) : IsTab W' g f m := by
  obtain ⟨n, D, h1, h2, h3⟩ := h
  exact ⟨n, D, h1, h2.kept hg hne, h3⟩
theorem IsTab.le {W : World} {g m m' : Nat} {f : Int → Int} (h : IsTab W g f m) (hm : m ≤ m') : IsTab W g f m' := by
  obtain ⟨n, D, h1, h2⟩ := h
  exact ⟨n, D, by omega, h2⟩
theorem IsTab.obj {W : World} {g m : Nat} {f : Int → Int} (h : IsTab W g f m) : ∃ es ck, W.heap[g]? = some (.map es ck) := by
  obtain ⟨n, D, h1, ⟨es, ck, hb, F, hs, hD⟩, h3⟩ := h
  exact ⟨es, ck, hb⟩
theorem R_ne_tab {α : Type} {d : Kd α} {e base g m : Nat} {w : World} {ok : Nat → Prop} {v : Value} {xs : List α} {f : Int → Int} (h : d.R e w base ok v xs) (ht : IsTab w g f m) : some g ≠ v.ownBlock := by
  obtain ⟨es, ck, hb⟩ := ht.obj
  obtain ⟨inner, ho, _⟩ := h.2
  rcases ho.2 with ⟨rfl, _⟩ | ⟨g', cap, cur, rfl, _, hh, _⟩
  · simp [Value.ownBlock]
  · intro he
    have e' : g = g' := by simpa [Value.ownBlock] using he
    subst e'
    rw [hb] at hh
    cases hh
theorem R_tab {α : Type} {d : Kd α} {e base g m : Nat} {w w' : World} {ok : Nat → Prop} {v : Value} {xs : List α} {f : Int → Int} (h : d.R e w base ok v xs) (ht : IsTab w g f m) (hg : w.grownBy w' (some g)) : d.R e w' base ok v xs := by
  obtain ⟨es, ck, hb⟩ := ht.obj
  refine Kd.R_mono (Kd.R_step (Kd.R_bound h) (fun k hk hlt => hg.block k hlt ?_)) (fun _ hk => hk.1)
  intro he
  have e' : k = g := by simpa using he
  subst e'
  obtain ⟨_, _, _, q, hq, cs, hc⟩ := hk
  rw [hb] at hc
  cases hc
section
variable {P : Program} {ops : Array Oper} {Q : Exit → Act → World → Prop}
theorem gate_look {t : TypeId} {m x : Operand} {c : Bool} {o : Oper} {rest : List Oper} {a : Act} {W : World} (_ho : o.op = Op.lookup t m x c) (h : wpList P ops Q (o :: rest) a W) : wpList P ops Q (o :: rest) a W := h
theorem gate_put {t : TypeId} {m x v : Operand} {o : Oper} {rest : List Oper} {a : Act} {W : World} (_ho : o.op = Op.mapUpdate t m x v) (h : wpList P ops Q (o :: rest) a W) : wpList P ops Q (o :: rest) a W := h
theorem lookT_ {rest : List Oper} {o : Oper} {a : Act} {w : World} (hg : o.guard = none) {m x : Operand} (hop : o.op = Op.lookup 82 m x false)
    {g n : Nat} {f : Int → Int} (i : Int) (hm : a.eval m = .map (some g)) (hx : a.eval x = .int .i64 i) (hs : IsTab w g f n) (hi : (Lit.int .i64 i).wf = true)
    (h : wpList Try.prog ops Q rest (a.put o.dst (.int .i64 (f i))) w) : wpList Try.prog ops Q (o :: rest) a w := by
  obtain ⟨n, D, _, h2, h3⟩ := hs
  refine wpList_lookup_own_int w hg m x 82 hop 3 3 .i64 lawI undMapI undI (zeroI w) g n D hm h2 _ _ hx (keyI i hi) (fun c hc _ => ?_)
  have e := hc.symm.trans (h3 i hi)
  simp only [DataW.lit.injEq, Lit.int.injEq, true_and] at e
  rw [e]
  exact h
theorem putT_ {rest : List Oper} {o : Oper} {a : Act} {w : World} (hd : o.dst = none) (hg : o.guard = none) {m x v : Operand} (hop : o.op = Op.mapUpdate 82 m x v)
    {g n : Nat} {f : Int → Int} (i y : Int) (hm : a.eval m = .map (some g)) (hx : a.eval x = .int .i64 i) (hv : a.eval v = .int .i64 y) (hs : IsTab w g f n) (hi : (Lit.int .i64 i).wf = true) (hy : (Lit.int .i64 y).wf = true) (hn : n < maxLen)
    (h : ∀ w', IsTab w' g (fun j => if j = i then y else f j) (n + 1) → w.grownBy w' (some g) → wpList Try.prog ops Q rest (a.put none undef) w') : wpList Try.prog ops Q (o :: rest) a w := by
  obtain ⟨n', D, h1, h2, h3⟩ := hs
  refine wpList_mapUpdate_own w hg m x v 82 hop 3 3 lawI undMapI _ g n' D hm h2 (by omega) _ _ _ hx hv (keyI i hi) _ [] (plainElem_int undI hy) ?_
  intro w' o1 o2
  rw [hd]
  refine h w' ⟨n' + 1, _, by omega, o1, ?_⟩ o2
  intro j hj
  have hM : IsMap D := by obtain ⟨es, clock, _, _, _, rfl⟩ := h2; exact ⟨_, rfl⟩
  by_cases e : j = i
  · subst e
    rw [atKey_put_same hM (lawI.key (keyI j hj))]
    simp
  · rw [atKey_put_other (by simpa using e), h3 j hj]
    simp [e]
end
theorem mat_step (l : List S83) (j : Nat) (h : j < l.length) (day : Int) (st : Int → Int) (acc r : List S47) (I : acc ++ matGo (l.drop j) day st = r) :
    (6 ≤ st (wrap64 (Int.tmod l[j].f2 4)) → acc ++ matGo (l.drop (j + 1)) (wrap64 (day + wrap64 (Int.tmod l[j].f1 4))) st = r) ∧
    (¬ 6 ≤ st (wrap64 (Int.tmod l[j].f2 4)) → (acc ++ [⟨wrap64 (1 + st (wrap64 (Int.tmod l[j].f2 4))), wrap64 (day + wrap64 (Int.tmod l[j].f1 4)), wrap64 (Int.tmod l[j].f2 4), wrap64 (Int.tmod l[j].f3 4)⟩]) ++
      matGo (l.drop (j + 1)) (wrap64 (day + wrap64 (Int.tmod l[j].f1 4))) (fun i => if i = wrap64 (Int.tmod l[j].f2 4) then wrap64 (st (wrap64 (Int.tmod l[j].f2 4)) + 1) else st i) = r) := by
  rw [List.drop_eq_getElem_cons h, matGo] at I
  constructor
  · intro h6
    rw [if_pos h6] at I
    exact I
  · intro h6
    rw [if_neg h6] at I
    rw [List.append_assoc]
    exact I
theorem meas24 {n j : Nat} {x : Int} (hx : x = ((j + 1 : Nat) : Int)) (h : j < n) : n - (intOf (.int .i64 x)).toNat < n - (intOf (.int .i64 (j : Int))).toNat := by
  subst hx
  show n - Int.toNat ((j + 1 : Nat) : Int) < n - Int.toNat (j : Int)
  rw [Int.toNat_natCast, Int.toNat_natCast]
  omega
theorem w64s (j : Nat) (h : j < 24) : wrap64 ((j : Int) + 1) = ((j + 1 : Nat) : Int) := by unfold wrap64; omega
set_option maxHeartbeats 8000000 in
set_option maxRecDepth 100000 in
theorem law0_Matters.calls (k : Nat) (A0 : Option Addr) (c0 : Nat) (l0 : List S83) (r : List S47) (w : World) (hr0 : Kd.C k83 w A0 l0.length l0) (hc0 : l0.length ≤ c0) (h : law0_Matters.f k l0 = some r) :
    Calls Try.prog 19 #[.slice A0 l0.length c0] w fun e w' => ∃ v0_ : Value, e = .returned (v0_) ∧ Kd.R k47 47 w' w.heap.size (fun _ => True) v0_ r ∧ Below w.heap.size w w' := by
  have hu := Try.underlying83
  have hu2 := Try.underlying47
  have hmm := @run_makeMap Try.prog
  have I0 : ([] : List S47) ++ matGo ((l0.take 24).drop 0) 0 (fun _ => 0) = r := Option.some.inj h
  clear h
  have HR := Aside0.mk hr0
  have R0 := Aside0.mk I0
  clear hr0 I0
  go_enter Try.func19, Try.ntmps19
  go_wp2
  have T0 := IsTab.made w
  have B0 : Below w.heap.size w (w.alloc (.map #[] 0)) := below_alloc (Below.refl _ _) _
  generalize w.alloc (.map #[] 0) = wm at T0 B0 ⊢
  have HB0 := Aside0.mk B0
  have HT0 := Aside0.mk T0
  clear B0 T0
  go_loopg [3, 4, 6] 24 (fun kx s3 s4 s6 wr => ∃ (j : Nat) (day : Int) (st : Int → Int) (acc : List S47), s4 = .int .i64 day ∧ s6 = .int .i64 j ∧ j ≤ l0.length ∧ j ≤ 24 ∧ 24 - j ≤ kx ∧ acc.length ≤ j ∧ Aside0 (IsTab wr w.heap.size st j) ∧ Aside0 (acc ++ matGo ((l0.take 24).drop j) day st = r) ∧
      Aside0 (Kd.R k47 47 wr w.heap.size (fun _ => True) s3 acc) ∧ Aside0 (Below w.heap.size w wr))
  case atStart => exact ⟨0, 0, fun _ => 0, [], rfl, rfl, Nat.zero_le _, by omega, by omega, Nat.le_refl _, HT0, R0, ⟨Kd.R_nil _ _ _ _ _⟩, HB0⟩
  case round =>
    obtain ⟨j, day, st, acc, rfl, rfl, hj, hj4, hk, hac, TT, I, RR, HB⟩ := hrel
    clear R0 HB0 HT0
    obtain ⟨A3, c3, rfl⟩ := Kd.R_slice RR.out
    by_cases hlt : j < l0.length
    · have hd : decide ((j : Int) < (l0.length : Int)) = true := decide_eq_true (by omega)
      by_cases h24 : j < 24
      · obtain ⟨k1, rfl⟩ : ∃ m, gk = m + 1 := ⟨gk - 1, by omega⟩
        have hd2 : decide ((j : Int) < 24) = true := decide_eq_true (by omega)
        have p0 : 0 ≤ (j : Int) := Int.natCast_nonneg j
        have q0 : (j : Int) < (l0.length : Int) := by omega
        have hjt : j < (l0.take 24).length := by rw [List.length_take]; omega
        have er : rd_T83 l0 (j : Int) = (l0.take 24)[j] := by
          unfold rd_T83
          rw [Int.toNat_natCast, List.getD_eq_getElem?_getD, List.getElem?_eq_getElem hlt, List.getElem_take]
          rfl
        have ms := mat_step (l0.take 24) j hjt day st acc r I.out
        obtain ⟨ad, ea, h0, h1, h2, h3⟩ := at_T83 HR.out (j : Int) p0 q0
        cases ea
        rw [er, Int.toNat_natCast] at h0 h1 h2 h3
        replace h0 := (HB.out.cell (World.block_lt_of_cell? w _ h0)).trans h0
        replace h1 := (HB.out.cell (World.block_lt_of_cell? w _ h1)).trans h1
        replace h2 := (HB.out.cell (World.block_lt_of_cell? w _ h2)).trans h2
        replace h3 := (HB.out.cell (World.block_lt_of_cell? w _ h3)).trans h3
        have hw := w64s j h24
        generalize (l0.take 24)[j] = y at *
        have p1 := eq_true p0
        have q1 := eq_true q0
        have TA := Aside0.mk (TT.out.alloc (.cells #[.int .u8 y.f0, .int .u8 y.f1, .int .u8 y.f2, .int .u8 y.f3] 83 (0, 0)))
        clear p0 q0 I er hjt
        by_cases h6 : 6 ≤ st (wrap64 (Int.tmod y.f2 4))
        · have hd3 : decide (6 ≤ st (wrap64 (Int.tmod y.f2 4))) = true := decide_eq_true h6
          have I2 := Aside0.mk (ms.1 h6)
          clear ms h6
          go_wp2_with ((with_reducible refine gate_look (t := 82) rfl ?_); refine lookT_ rfl rfl (wrap64 (Int.tmod y.f2 4)) rfl rfl TA.out (wf64 _) ?_)
          go_roundg k1
          case measure => omega
          case rel => exact ⟨j + 1, _, st, acc, rfl, by first | rw [hw] | (simp only [hw]; done) | go_num, by omega, by omega, by omega, by omega, ⟨TA.out.le (Nat.le_succ j)⟩, I2, ⟨Kd.R_alloc RR.out _⟩, ⟨below_alloc HB.out _⟩⟩
        · have hd3 : decide (6 ≤ st (wrap64 (Int.tmod y.f2 4))) = false := decide_eq_false h6
          have I2 := Aside0.mk (ms.2 h6)
          clear ms h6
          have KX := blk_new wr (.cells #[.int .u8 y.f0, .int .u8 y.f1, .int .u8 y.f2, .int .u8 y.f3] 83 (0, 0))
          have hne : some wr.heap.size ≠ some w.heap.size := by have := TT.out.lt; simp; omega
          go_wp2_with (first | ((with_reducible refine gate_look (t := 82) rfl ?_); refine lookT_ rfl rfl (wrap64 (Int.tmod y.f2 4)) rfl rfl TA.out (wf64 _) ?_) |
            ((with_reducible refine gate_put (t := 82) rfl ?_); refine putT_ rfl rfl rfl (wrap64 (Int.tmod y.f2 4)) (wrap64 (st (wrap64 (Int.tmod y.f2 4)) + 1)) rfl rfl rfl TA.out (wf64 _) (wf64 _) ?hn ?_; (case hn => unfold maxLen; omega); intro w2 T2 hg2; have K2 := blk_grown KX hg2 hne; have R2 := R_tab (Kd.R_alloc RR.out _) TA.out hg2; have B2 : Below w.heap.size w w2 := (below_alloc HB.out _).grown hg2 (below_alloc HB.out _).size (fun k hk => by cases hk; exact Nat.le_refl _); obtain ⟨kc0, kc1, kc2, kc3⟩ := cells4 ⟨K2⟩) |
            ((with_reducible refine gate_builtin (b := .append) (xs := #[.tmp 44, .tmp 54]) rfl ?_); at_builtin; refine Kd.R_append k47 (w0 := w) w.heap.size rfl (.tmp 44) (.tmp 54) 43 47 (.agg #[(.int .i64 0), (.int .i64 0), (.int .i64 0), (.int .i64 0)]) 32 rfl Try.underlying43 info47 rfl (by decide) (by omega) _ acc (⟨wrap64 (1 + st (wrap64 (Int.tmod y.f2 4))), wrap64 (day + wrap64 (Int.tmod y.f1 4)), wrap64 (Int.tmod y.f2 4), wrap64 (Int.tmod y.f3 4)⟩ : S47) [.int .i64 (wrap64 (1 + st (wrap64 (Int.tmod y.f2 4)))), .int .i64 (wrap64 (day + wrap64 (Int.tmod y.f1 4))), .int .i64 (wrap64 (Int.tmod y.f2 4)), .int .i64 (wrap64 (Int.tmod y.f3 4))] (fun _ => True) (fun _ => False) rfl rfl ?aP (fun _ hk => hk.elim) ?aF ?aO ?aB ?aS ?aL ?_; (case aP => exact k47_mkM _ _ _ (⟨_, _, _, _⟩ : S47)); (case aB => exact B2); (case aF => exact (fun _ _ => trivial)); (case aO => exact R2); (case aS => exact B2.size); (case aL => omega); intro v5 w5 ho5 hb5 hgr hat; obtain ⟨A6, c6, rfl⟩ := Kd.R_slice ho5; have T5 := T2.grown hgr (R_ne_tab R2 T2)))
          go_roundg k1
          case measure => omega
          case rel => exact ⟨j + 1, _, _, _, rfl, by first | rw [hw] | (simp only [hw]; done) | go_num, by omega, by omega, by omega, by simp; omega, ⟨T5⟩, I2, ⟨by simpa using Kd.R_mono ho5 (fun _ _ => trivial)⟩, ⟨hb5⟩⟩
      · obtain rfl : j = 24 := by omega
        have I2 := I.out
        rw [List.drop_eq_nil_of_le (by rw [List.length_take]; omega), matGo, List.append_nil] at I2
        subst I2
        have hd2 : decide (((24 : Nat) : Int) < 24) = false := decide_eq_false (by omega)
        clear TT I
        go_wp2
        go_ret
        exact ⟨_, rfl, RR.out, HB.out⟩
    · obtain rfl : j = l0.length := by omega
      have I2 := I.out
      rw [List.drop_eq_nil_of_le (by rw [List.length_take]; omega), matGo, List.append_nil] at I2
      subst I2
      have hd : decide ((l0.length : Int) < (l0.length : Int)) = false := decide_eq_false (by omega)
      clear TT I
      go_wp2
      go_ret
      exact ⟨_, rfl, RR.out, HB.out⟩
end Go.Proofs.Ytpfiecjacpbhkaa.D

namespace Go.Proofs.Ytpfiecjacpbhkaa.D
open Go.RowKit Go.Proofs.YtpfiecjacpbhkaaW.PrintWords Go.Proofs.YtpfiecjacpbhkaaW.PrintLast Go.Proofs.YtpfiecjacpbhkaaW.PrintMore
set_option linter.unusedVariables false
set_option linter.unusedSimpArgs false
def insolvencylaw33_built.l0 : Nat → List (S47) → Int → Int → Int → Int → List Int → List (S50) → Option (Int × Int × Int × List Int × (List (S50)))
 | 0, _, _, _, _, _, _, _ => none
 | k + 1, x9, x10, x339000, x339001, x339002, x339003, x339004 => if x10 < (x9.length : Int) then (if 0 ≤ x10 then ((ref_File.f k x339000 x339001 x339002 x339003 x339004 ((rd_T47 x9 x10).f0) ((rd_T47 x9 x10).f1) ((rd_T47 x9 x10).f2) ((rd_T47 x9 x10).f3)).bind fun bt343 => (if bt343.2.2.2.2.2.2 = 0 then (insolvencylaw33_built.l0 k x9 (wrap64 (x10 + 1)) bt343.1 bt343.2.1 bt343.2.2.1 bt343.2.2.2.1 bt343.2.2.2.2.1) else (insolvencylaw33_built.l0 k x9 (wrap64 (x10 + 1)) x339000 x339001 x339002 x339003 x339004))) else (none)) else (some (x339000, x339001, x339002, x339003, x339004))
def insolvencylaw33_built.f (k : Nat) (a0_0 : Int) (a0_1 : Int) (l1 : List Int) (l2 : List (S83)) : Option (Int × Int × Int × List Int × (List (S50))) := (insolvencylaw0_Terms.f k a0_0 a0_1 l1).bind fun bt323 => ((insolvencyref33_NewDocket.f 0 bt323.1 bt323.2.1 bt323.2.2).bind fun bt328 => ((law0_Matters.f k l2).bind fun t339 => (insolvencylaw33_built.l0 k t339 0 bt328.1 bt328.2.1 bt328.2.2.1 bt328.2.2.2.1 bt328.2.2.2.2.1)))
theorem insolvencylaw33_built.mono_l : ∀ k, (∀ y0 y1 y2 y3 y4 y5 y6, LeO (insolvencylaw33_built.l0 k y0 y1 y2 y3 y4 y5 y6) (insolvencylaw33_built.l0 (k + 1) y0 y1 y2 y3 y4 y5 y6))
 | 0 => fun _ _ _ _ _ _ _ r h => by simp [insolvencylaw33_built.l0] at h
 | k + 1 => by
  have ih0 := insolvencylaw33_built.mono_l k
  ·intro y0 y1 y2 y3 y4 y5 y6
   unfold insolvencylaw33_built.l0
   repeat' first
   | (with_reducible exact ih0 _ _ _ _ _ _ _)
   | (with_reducible exact insolvencylaw0_Terms.mono _ _ _ _)
   | (with_reducible exact law0_Matters.mono _ _)
   | (with_reducible exact ref_File.mono _ _ _ _ _ _ _ _ _ _)
   | (with_reducible exact LeO.refl _)
   | (with_reducible exact LeO.none _)
   | (with_reducible refine LeO.ite ?_ ?_)
   | (with_reducible refine LeO.bind ?_ (fun _ => ?_))
   | exact ih0 _ _ _ _ _ _ _
   | exact insolvencylaw0_Terms.mono _ _ _ _
   | exact law0_Matters.mono _ _
   | exact ref_File.mono _ _ _ _ _ _ _ _ _ _
   | exact LeO.none _
   | refine LeO.ite ?_ ?_
   | refine LeO.bind ?_ (fun _ => ?_)
theorem insolvencylaw33_built.mono : ∀ a0 a1 a2 a3 k, LeO (insolvencylaw33_built.f k a0 a1 a2 a3) (insolvencylaw33_built.f (k + 1) a0 a1 a2 a3) := by
 intro a0 a1 a2 a3 k
 have ih0 := insolvencylaw33_built.mono_l k
 unfold insolvencylaw33_built.f
 repeat' first
   | (with_reducible exact ih0 _ _ _ _ _ _ _)
   | (with_reducible exact insolvencylaw0_Terms.mono _ _ _ _)
   | (with_reducible exact law0_Matters.mono _ _)
   | (with_reducible exact ref_File.mono _ _ _ _ _ _ _ _ _ _)
   | (with_reducible exact LeO.refl _)
   | (with_reducible exact LeO.none _)
   | (with_reducible refine LeO.ite ?_ ?_)
   | (with_reducible refine LeO.bind ?_ (fun _ => ?_))
   | exact ih0 _ _ _ _ _ _ _
   | exact insolvencylaw0_Terms.mono _ _ _ _
   | exact law0_Matters.mono _ _
   | exact ref_File.mono _ _ _ _ _ _ _ _ _ _
   | exact LeO.none _
   | refine LeO.ite ?_ ?_
   | refine LeO.bind ?_ (fun _ => ?_)
structure BSt (w W : World) (gO gZ : Nat) (d a p : Int) (v3 v4 v7 : Value) (hs : List Int) (ms : List S50) (fl : List S47) : Prop where
  b : Below w.heap.size w W
  o : W.heap[gO]? = some (.cells #[.int .i64 d, .int .i64 a, .int .i64 p, v3, v4] 30 (0, 0))
  z : W.heap[gZ]? = some (.cells #[.int .i64 0, .int .i64 0, .int .i64 0, .slice none 0 0, .slice none 0 0] 30 (0, 0))
  r3 : Kd.R (Kd.int .i64) 3 W w.heap.size (fun _ => True) v3 hs
  r4 : Kd.R k50 50 W w.heap.size (fun _ => True) v4 ms
  r7 : Kd.R k47 47 W w.heap.size (fun _ => True) v7 fl
theorem BSt.below {w W W' : World} {gO gZ : Nat} {d a p : Int} {v3 v4 v7 : Value} {hs : List Int} {ms : List S50} {fl : List S47} (h : BSt w W gO gZ d a p v3 v4 v7 hs ms fl) (hb : Below W.heap.size W W') : BSt w W' gO gZ d a p v3 v4 v7 hs ms fl :=
  ⟨below_step h.b hb, blk_below h.o hb, blk_below h.z hb, Kd.R_below h.r3 hb, Kd.R_below h.r4 hb, Kd.R_below h.r7 hb⟩
theorem BSt.turn {w W : World} {gO gZ : Nat} {d a p d' a' p' : Int} {v3 v4 v7 v3' v4' : Value} {hs hs' : List Int} {ms ms' : List S50} {fl : List S47} (h : BSt w W gO gZ d a p v3 v4 v7 hs ms fl) (hO : w.heap.size ≤ gO) (hn : gZ ≠ gO)
    (h3 : Kd.R (Kd.int .i64) 3 W w.heap.size (fun _ => True) v3' hs') (h4 : Kd.R k50 50 W w.heap.size (fun _ => True) v4' ms') : BSt w (five W gO (.int .i64 d') (.int .i64 a') (.int .i64 p') v3' v4') gO gZ d' a' p' v3' v4' v7 hs' ms' fl :=
  ⟨five_below h.b hO _ _ _ _ _, five_blk h.o _ _ _ _ _, by
      unfold five
      exact blk_far (p := ⟨gO, 4, none⟩) (blk_far (p := ⟨gO, 3, none⟩) (blk_far (p := ⟨gO, 2, none⟩) (blk_far (p := ⟨gO, 1, none⟩) (blk_far (p := ⟨gO, 0, none⟩) h.z hn _) hn _) hn _) hn _) hn _,
    five_R h3 h.o (by decide) _ _ _ _ _, five_R h4 h.o (by decide) _ _ _ _ _, five_R h.r7 h.o (by decide) _ _ _ _ _⟩
theorem BSt.other {w W : World} {gO gZ gN : Nat} {d a p : Int} {v3 v4 v7 : Value} {hs : List Int} {ms : List S50} {fl : List S47} {y0 y1 y2 y3 y4 : Value} (h : BSt w W gO gZ d a p v3 v4 v7 hs ms fl) (hN : W.heap[gN]? = some (.cells #[y0, y1, y2, y3, y4] 30 (0, 0))) (h1 : gO ≠ gN) (h2 : gZ ≠ gN) (h3 : w.heap.size ≤ gN) (x0 x1 x2 x3 x4 : Value) :
    BSt w (five W gN x0 x1 x2 x3 x4) gO gZ d a p v3 v4 v7 hs ms fl := by
  refine ⟨five_below h.b h3 _ _ _ _ _, ?_, ?_, five_R h.r3 hN (by decide) _ _ _ _ _, five_R h.r4 hN (by decide) _ _ _ _ _, five_R h.r7 hN (by decide) _ _ _ _ _⟩
  · unfold five
    exact blk_far (p := ⟨gN, 4, none⟩) (blk_far (p := ⟨gN, 3, none⟩) (blk_far (p := ⟨gN, 2, none⟩) (blk_far (p := ⟨gN, 1, none⟩) (blk_far (p := ⟨gN, 0, none⟩) h.o h1 _) h1 _) h1 _) h1 _) h1 _
  · unfold five
    exact blk_far (p := ⟨gN, 4, none⟩) (blk_far (p := ⟨gN, 3, none⟩) (blk_far (p := ⟨gN, 2, none⟩) (blk_far (p := ⟨gN, 1, none⟩) (blk_far (p := ⟨gN, 0, none⟩) h.z h2 _) h2 _) h2 _) h2 _) h2 _
theorem elmF {e base g n cap : Nat} {ok : Nat → Prop} {W : World} {xs : List S47} (h : Kd.R k47 e W base ok (.slice (some ⟨g, 0, none⟩) n cap) xs) (i : Int) (h0 : 0 ≤ i) (h1 : i < n) (m : S47) (hm : rd_T47 xs i = m) :
    W.cell? ⟨g, i.toNat * 4, none⟩ = some (.int .i64 m.f0) ∧ W.cell? ⟨g, i.toNat * 4 + 1, none⟩ = some (.int .i64 m.f1) ∧ W.cell? ⟨g, i.toNat * 4 + 2, none⟩ = some (.int .i64 m.f2) ∧ W.cell? ⟨g, i.toNat * 4 + 3, none⟩ = some (.int .i64 m.f3) := by
  obtain ⟨ce, hcl, hM, hcc, hfr⟩ := Kd.R_elem h z47 i h0 h1
  obtain rfl := k47_openM hM
  subst hm
  exact ⟨hcc 0 _ rfl, hcc 1 _ rfl, hcc 2 _ rfl, hcc 3 _ rfl⟩
def bldWorld (w : World) (x y : Int) : World :=
  (w.alloc (.cells #[.int .u8 x, .int .u8 y] 22 (0, 0))).alloc (.cells #[.int .i64 0, .int .i64 0, .int .i64 0, .slice none 0 0, .slice none 0 0] 30 (0, 0))
theorem bldW_below (w : World) (x y : Int) : Below w.heap.size w (bldWorld w x y) := by
  unfold bldWorld
  exact below_alloc (below_alloc (Below.refl _ _) _) _
theorem bldW_res (w : World) (x y : Int) : (bldWorld w x y).heap[w.heap.size + 1]? = some (.cells #[.int .i64 0, .int .i64 0, .int .i64 0, .slice none 0 0, .slice none 0 0] 30 (0, 0)) := by
  have := blk_new (w.alloc (.cells #[.int .u8 x, .int .u8 y] 22 (0, 0))) (.cells #[.int .i64 0, .int .i64 0, .int .i64 0, .slice none 0 0, .slice none 0 0] 30 (0, 0))
  simpa [bldWorld] using this
set_option maxHeartbeats 16000000 in
set_option maxRecDepth 100000 in
theorem insolvencylaw33_built.calls (k : Nat) (a0_0 : Int) (a0_1 : Int) (A1 : Option Addr) (c1 : Nat) (l1 : List Int) (A2 : Option Addr) (c2 : Nat) (l2 : List S83) (r1 : Int) (r2 : Int) (r3 : Int) (r4 : List Int) (r5 : List S50) (w : World) (hr1 : Kd.C (Kd.int .u16) w A1 l1.length l1) (hc1 : l1.length ≤ c1) (hr2 : Kd.C k83 w A2 l2.length l2) (hc2 : l2.length ≤ c2) (h : insolvencylaw33_built.f k a0_0 a0_1 l1 l2 = some (r1, r2, r3, r4, r5)) :
    Calls Try.prog 12 #[.agg #[.int .u8 a0_0, .int .u8 a0_1], .slice A1 l1.length c1, .slice A2 l2.length c2] w fun e w' => ∃ v3_ v4_ : Value, e = .returned (.agg #[.int .i64 r1, .int .i64 r2, .int .i64 r3, v3_, v4_]) ∧ Kd.R (Kd.int .i64) 3 w' w.heap.size (fun _ => True) v3_ r4 ∧ Kd.R k50 50 w' w.heap.size (fun _ => True) v4_ r5 ∧ Below w.heap.size w w' := by
  have hu := Try.underlying30
  have hu2 := Try.underlying47
  have hu3 := Try.underlying43
  have hu4 := Try.underlying22
  unfold insolvencylaw33_built.f at h
  obtain ⟨⟨t1, t2, t3⟩, hT, h⟩ := Option.bind_eq_some_iff.mp h
  obtain ⟨⟨n1, n2, n3, n4, n5, n6⟩, hN, h⟩ := Option.bind_eq_some_iff.mp h
  obtain ⟨fl, hM, h⟩ := Option.bind_eq_some_iff.mp h
  have I0 : insolvencylaw33_built.l0 k fl 0 n1 n2 n3 n4 n5 = some (r1, r2, r3, r4, r5) := h
  clear h
  have B0 := bldW_below w a0_0 a0_1
  have K0 := bldW_res w a0_0 a0_1
  have hcT := insolvencylaw0_Terms.calls k a0_0 a0_1 A1 c1 l1 t1 t2 t3 _ (Kd.C_below hr1 B0) hc1 hT
  have hcM := fun W (hW : Below w.heap.size w W) => law0_Matters.calls k A2 c2 l2 fl W (Kd.C_below hr2 hW) hc2 hM
  have HI := Aside0.mk I0
  clear hr1 hr2 I0 hT hM
  go_enter Try.func12, Try.ntmps12
  go_upto_region 2 with (first | (go_at_call 18; change Calls _ _ _ (bldWorld w a0_0 a0_1) _; refine hcT.mono ?_; rintro e w1 ⟨v, rfl, hv, hb1⟩; obtain ⟨A3, c3, rfl⟩ := Kd.R_slice hv; have hC3 := (Kd.R_reads' hv).2; have hcN := insolvencyref33_NewDocket.calls 0 t1 t2 A3 c3 t3 n1 n2 n3 n4 n5 n6 w1 hC3.2 hC3.1 hN) | (go_at_call 22; refine hcN.mono ?_; rintro e w2 ⟨v3, v4, rfl, hv3, hv4, hb2⟩; obtain ⟨A4, c4, rfl⟩ := Kd.R_slice hv3; obtain ⟨A5, c5, rfl⟩ := Kd.R_slice hv4))
  have BO : Below w.heap.size w w2 := below_step (below_step B0 hb1) hb2
  have KZ := blk_alloc (blk_below (blk_below K0 hb1) hb2) (.cells #[.int .i64 n1, .int .i64 n2, .int .i64 n3, .slice A4 n4.length c4, .slice A5 n5.length c5] 30 (0, 0))
  have KO := blk_new w2 (.cells #[.int .i64 n1, .int .i64 n2, .int .i64 n3, .slice A4 n4.length c4, .slice A5 n5.length c5] 30 (0, 0))
  have BO2 := below_alloc BO (.cells #[.int .i64 n1, .int .i64 n2, .int .i64 n3, .slice A4 n4.length c4, .slice A5 n5.length c5] 30 (0, 0))
  have Q3 := Kd.R_alloc (Kd.R_lower hv3 (below_step B0 hb1).size) (.cells #[.int .i64 n1, .int .i64 n2, .int .i64 n3, .slice A4 n4.length c4, .slice A5 n5.length c5] 30 (0, 0))
  have Q4 := Kd.R_alloc (Kd.R_lower hv4 (below_step B0 hb1).size) (.cells #[.int .i64 n1, .int .i64 n2, .int .i64 n3, .slice A4 n4.length c4, .slice A5 n5.length c5] 30 (0, 0))
  have gO0 : w.heap.size ≤ w2.heap.size := BO.size
  have gZ0 : w.heap.size ≤ w.heap.size + 1 := Nat.le_succ _
  have nZ : w.heap.size + 1 ≠ w2.heap.size := Nat.ne_of_lt (blk_lt (blk_below (blk_below K0 hb1) hb2))
  generalize w2.alloc (.cells #[.int .i64 n1, .int .i64 n2, .int .i64 n3, .slice A4 n4.length c4, .slice A5 n5.length c5] 30 (0, 0)) = W3 at *
  generalize w2.heap.size = gO at *
  generalize w.heap.size + 1 = gZ at *
  clear B0 K0 hcT hb1 hb2 BO hv hv3 hv4 hC3 hcN hN
  go_wp2_with (go_at_call 19; refine (hcM _ BO2).mono ?_; rintro e w4 ⟨v7, rfl, hv7, hb4⟩; obtain ⟨A7, c7, rfl⟩ := Kd.R_slice hv7)
  have S0 : BSt w w4 gO gZ n1 n2 n3 (.slice A4 n4.length c4) (.slice A5 n5.length c5) (.slice A7 fl.length c7) n4 n5 fl :=
    ⟨below_step BO2 hb4, blk_below KO hb4, blk_below KZ hb4, Kd.R_below Q3 hb4, Kd.R_below Q4 hb4, Kd.R_lower hv7 BO2.size⟩
  have SS := Aside0.mk S0
  clear S0 KZ KO BO2 Q3 Q4 hcM hv7 hb4
  go_loopg [10] k (fun kx s10 wr => ∃ (x d a p : Int) (hs : List Int) (ms : List S50) (v3 v4 : Value), s10 = .int .i64 x ∧ Aside0 (insolvencylaw33_built.l0 kx fl x d a p hs ms = some (r1, r2, r3, r4, r5)) ∧ Aside0 (BSt w wr gO gZ d a p v3 v4 (.slice A7 fl.length c7) hs ms fl))
  case atStart => exact ⟨0, n1, n2, n3, n4, n5, _, _, rfl, HI, SS⟩
  case round =>
    obtain ⟨x, d, a, p, hs, ms, v3, v4, rfl, HI2, S⟩ := hrel
    clear HI SS
    obtain ⟨k1, rfl⟩ : ∃ m, gk = m + 1 := by
      cases gk with
      | zero => have := HI2.out; cases this
      | succ m => exact ⟨m, rfl⟩
    have I := HI2.out
    rw [insolvencylaw33_built.l0] at I
    clear HI2
    obtain ⟨B3, d3, rfl⟩ := Kd.R_slice S.out.r3
    obtain ⟨B4, d4, rfl⟩ := Kd.R_slice S.out.r4
    obtain ⟨o0, o1, o2, o3, o4⟩ := cells5 ⟨S.out.o⟩
    by_cases hlt : x < (fl.length : Int)
    · rw [if_pos hlt] at I
      by_cases h0 : 0 ≤ x
      case neg => rw [if_neg h0] at I; cases I
      rw [if_pos h0] at I
      have hd : decide (x < (fl.length : Int)) = true := decide_eq_true hlt
      obtain ⟨g7, c7', eq7, -, hg7, -⟩ := Kd.R_form S.out.r7 (by omega)
      injection eq7 with e7 e8 e9
      subst e7
      clear e8 e9 c7'
      generalize hy : rd_T47 fl x = y at *
      obtain ⟨f0, f1, f2, f3⟩ := elmF S.out.r7 x h0 hlt y hy
      have p1 : (0 ≤ x) = True := eq_true h0
      have p2 : (x < (fl.length : Int)) = True := eq_true hlt
      obtain ⟨⟨s1, s2, s3, s4, s5, s6, s7⟩, hF, I2⟩ := Option.bind_eq_some_iff.mp I
      have hcal : ∀ W, Below wr.heap.size wr W → Calls Try.prog 28 #[.agg #[.int .i64 d, .int .i64 a, .int .i64 p, .slice B3 hs.length d3, .slice B4 ms.length d4], .agg #[.int .i64 y.f0, .int .i64 y.f1, .int .i64 y.f2, .int .i64 y.f3]] W fun e w' => ∃ u3 u4 u5 : Value, e = .returned (.tuple #[.agg #[.int .i64 s1, .int .i64 s2, .int .i64 s3, u3, u4], u5, .int .i64 s7]) ∧
          Kd.R (Kd.int .i64) 3 w' w.heap.size (fun _ => True) u3 s4 ∧ Kd.R k50 50 w' w.heap.size (fun _ => True) u4 s5 ∧ Kd.R k52 52 w' w.heap.size (fun _ => True) u5 s6 ∧ Below wr.heap.size wr w' ∧ Below W.heap.size W w' := by
        intro W hW
        refine (ref_File.calls k1 d a p B3 d3 hs B4 d4 ms y.f0 y.f1 y.f2 y.f3 s1 s2 s3 s4 s5 s6 s7 W (Kd.C_below (Kd.R_reads' S.out.r3).2.2 hW) (Kd.R_reads' S.out.r3).2.1 (Kd.C_below (Kd.R_reads' S.out.r4).2.2 hW) (Kd.R_reads' S.out.r4).2.1 hF).mono ?_
        rintro e w' ⟨u3, u4, u5, he, q1, q2, q3, hb⟩
        have hs' : w.heap.size ≤ W.heap.size := Nat.le_trans S.out.b.size hW.size
        exact ⟨u3, u4, u5, he, Kd.R_lower q1 hs', Kd.R_lower q2 hs', Kd.R_lower q3 hs', below_step hW hb, hb⟩
      have I3 := Aside0.mk I2
      clear I I2 hF hy h0 hlt
      dsimp only at I3
      go_wp2_with (fail)
      obtain ⟨u0, u1, u2, u3', u4', u5', u6', u7', u8'⟩ : wr.drew.cell? ⟨gO, 0, none⟩ = some (.int .i64 d) ∧ wr.drew.cell? ⟨gO, 1, none⟩ = some (.int .i64 a) ∧ wr.drew.cell? ⟨gO, 2, none⟩ = some (.int .i64 p) ∧ wr.drew.cell? ⟨gO, 3, none⟩ = some (.slice B3 hs.length d3) ∧ wr.drew.cell? ⟨gO, 4, none⟩ = some (.slice B4 ms.length d4) ∧ wr.drew.cell? ⟨g7, x.toNat * 4, none⟩ = some (.int .i64 y.f0) ∧ wr.drew.cell? ⟨g7, x.toNat * 4 + 1, none⟩ = some (.int .i64 y.f1) ∧ wr.drew.cell? ⟨g7, x.toNat * 4 + 2, none⟩ = some (.int .i64 y.f2) ∧ wr.drew.cell? ⟨g7, x.toNat * 4 + 3, none⟩ = some (.int .i64 y.f3) := ⟨o0, o1, o2, o3, o4, f0, f1, f2, f3⟩
      have nn1 := World.new_ne wr _ o0
      have nn2 := World.new_ne wr _ f0
      go_region_held3 (fun w_ => (w_.cell? ⟨gO, 0, none⟩ = some (.int .i64 d) ∧ w_.cell? ⟨gO, 1, none⟩ = some (.int .i64 a) ∧ w_.cell? ⟨gO, 2, none⟩ = some (.int .i64 p) ∧ w_.cell? ⟨gO, 3, none⟩ = some (.slice B3 hs.length d3) ∧ w_.cell? ⟨gO, 4, none⟩ = some (.slice B4 ms.length d4)) ∧ w_.cell? ⟨g7, x.toNat * 4, none⟩ = some (.int .i64 y.f0) ∧ w_.cell? ⟨g7, x.toNat * 4 + 1, none⟩ = some (.int .i64 y.f1) ∧ w_.cell? ⟨g7, x.toNat * 4 + 2, none⟩ = some (.int .i64 y.f2) ∧ w_.cell? ⟨g7, x.toNat * 4 + 3, none⟩ = some (.int .i64 y.f3)) (first | (with_reducible exact ⟨⟨o0, o1, o2, o3, o4⟩, f0, f1, f2, f3⟩) | (with_reducible exact ⟨⟨u0, u1, u2, u3', u4'⟩, u5', u6', u7', u8'⟩) | (with_reducible exact ⟨⟨o0', o1', o2', o3', o4'⟩, f0', f1', f2', f3'⟩) | go_keep)
        (first | (go_at_call 28; refine (hcal _ (by repeat (first | exact Below.refl _ _ | apply below_drew1 | apply below_alloc | apply pw_below_drewN))).mono ?_; rintro e w5 ⟨u3, u4, u5, rfl, hu3', hu4', hu5', hb5, hbW⟩; obtain ⟨D3, q3, rfl⟩ := Kd.R_slice hu3'; obtain ⟨D4, q4, rfl⟩ := Kd.R_slice hu4'; obtain ⟨D5, q5, rfl⟩ := Kd.R_slice hu5'; have o0' := pw_cell_below hb5 o0; have o1' := pw_cell_below hb5 o1; have o2' := pw_cell_below hb5 o2; have o3' := pw_cell_below hb5 o3; have o4' := pw_cell_below hb5 o4; have f0' := pw_cell_below hb5 f0; have f1' := pw_cell_below hb5 f1; have f2' := pw_cell_below hb5 f2; have f3' := pw_cell_below hb5 f3; have nn3 := World.new_ne w5 _ o0'; have nn4 := World.new_ne w5 _ f0'; try (have KN : w5.heap[wr.heap.size]? = some (.cells #[.int .i64 0, .int .i64 0, .int .i64 0, .slice none 0 0, .slice none 0 0] 30 (0, 0)) := blk_below (w := (wr.alloc (.cells #[.int .i64 0, .int .i64 0, .int .i64 0, .slice none 0 0, .slice none 0 0] 30 (0, 0))).drew) (blk_drew (blk_new wr _)) (by with_reducible exact hbW); obtain ⟨z0, z1, z2, z3, z4⟩ := cells5 ⟨KN⟩; obtain ⟨x0, x1, x2, x3, x4⟩ := frz5 ⟨KN⟩)))
      all_goals have S5 := S.out.below hb5
      all_goals have gO1 := blk_lt S.out.o
      all_goals have gZ1 := blk_lt S.out.z
      all_goals have gO2 := blk_lt S5.o
      all_goals have gZ2 := blk_lt S5.z
      all_goals have gw := S.out.b.size
      all_goals first
        | (change Exit.then _ _ _ _ (five w5 wr.heap.size (.int .i64 s1) (.int .i64 s2) (.int .i64 s3) (.slice D3 s4.length q3) (.slice D4 s5.length q4))
           have S6 := S5.other KN (by omega) (by omega) gw (.int .i64 s1) (.int .i64 s2) (.int .i64 s3) (.slice D3 s4.length q3) (.slice D4 s5.length q4)
           have KN6 := five_blk KN (.int .i64 s1) (.int .i64 s2) (.int .i64 s3) (.slice D3 s4.length q3) (.slice D4 s5.length q4)
           have T3 := five_R hu3' KN (by decide) (.int .i64 s1) (.int .i64 s2) (.int .i64 s3) (.slice D3 s4.length q3) (.slice D4 s5.length q4)
           have T4 := five_R hu4' KN (by decide) (.int .i64 s1) (.int .i64 s2) (.int .i64 s3) (.slice D3 s4.length q3) (.slice D4 s5.length q4)
           generalize five w5 wr.heap.size (.int .i64 s1) (.int .i64 s2) (.int .i64 s3) (.slice D3 s4.length q3) (.slice D4 s5.length q4) = W6 at *
           generalize wr.heap.size = gN at *)
        | (change Exit.then _ _ _ _ (w5.alloc (.cells #[.int .i64 s1, .int .i64 s2, .int .i64 s3, .slice D3 s4.length q3, .slice D4 s5.length q4] 30 (0, 0)))
           have S6 := S5.below (below_alloc (Below.refl w5.heap.size w5) (.cells #[.int .i64 s1, .int .i64 s2, .int .i64 s3, .slice D3 s4.length q3, .slice D4 s5.length q4] 30 (0, 0)))
           have KN6 := blk_new w5 (.cells #[.int .i64 s1, .int .i64 s2, .int .i64 s3, .slice D3 s4.length q3, .slice D4 s5.length q4] 30 (0, 0))
           have T3 := Kd.R_alloc hu3' (.cells #[.int .i64 s1, .int .i64 s2, .int .i64 s3, .slice D3 s4.length q3, .slice D4 s5.length q4] 30 (0, 0))
           have T4 := Kd.R_alloc hu4' (.cells #[.int .i64 s1, .int .i64 s2, .int .i64 s3, .slice D3 s4.length q3, .slice D4 s5.length q4] 30 (0, 0))
           generalize w5.alloc (.cells #[.int .i64 s1, .int .i64 s2, .int .i64 s3, .slice D3 s4.length q3, .slice D4 s5.length q4] 30 (0, 0)) = W6 at *
           generalize w5.heap.size = gN at *)
      all_goals clear o0 o1 o2 o3 o4 f0 f1 f2 f3 o0' o1' o2' o3' o4' f0' f1' f2' f3' u0 u1 u2 u3' u4' u5' u6' u7' u8' nn1 nn2 nn3 nn4 gO1 gZ1 gO2 gZ2 gw hb5 hbW hu3' hu4' hu5' S5 S hcal
      all_goals try clear z0 z1 z2 z3 z4 x0 x1 x2 x3 x4 KN
      all_goals obtain ⟨n0', n1', n2', n3', n4'⟩ := cells5 ⟨KN6⟩
      all_goals obtain ⟨o0, o1, o2, o3, o4⟩ := cells5 ⟨S6.o⟩
      all_goals obtain ⟨x0, x1, x2, x3, x4⟩ := frz5 ⟨S6.o⟩
      all_goals have S7 := S6.turn (d' := s1) (a' := s2) (p' := s3) gO0 nZ T3 T4
      all_goals have HS6 := Aside0.mk S6
      all_goals have HS7 := Aside0.mk S7
      all_goals clear S6 S7 T3 T4 KN6
      all_goals have HIO := I3.out
      all_goals by_cases he : s7 = 0
      all_goals first
        | (rw [if_pos he] at HIO
           have HI4 := Aside0.mk HIO
           have he2 : (s7 == 0) = true := by simpa using he
           clear HIO I3
           go_wp2
           go_roundg k1
           case measure => omega
           case rel => exact ⟨_, s1, s2, s3, s4, s5, _, _, rfl, HI4, HS7⟩)
        | (rw [if_neg he] at HIO
           have HI4 := Aside0.mk HIO
           have he2 : (s7 == 0) = false := by simpa using he
           clear HIO I3
           go_wp2
           go_roundg k1
           case measure => omega
           case rel => exact ⟨_, d, a, p, hs, ms, _, _, rfl, HI4, HS6⟩)
    · rw [if_neg hlt] at I
      have hd : decide (x < (fl.length : Int)) = false := decide_eq_false hlt
      have I2 := Option.some.inj I
      injection I2 with i1 I2
      injection I2 with i2 I2
      injection I2 with i3 I2
      injection I2 with i4 i5
      subst i1 i2 i3 i4 i5
      obtain ⟨z0, z1, z2, z3, z4⟩ := cells5 ⟨S.out.z⟩
      obtain ⟨x0, x1, x2, x3, x4⟩ := frz5 ⟨S.out.z⟩
      go_wp2
      refine bodyPost_ret (results_cell_row rfl _ _ gZ 30 _ (0, 0) _ rfl (five_blk S.out.z _ _ _ _ _) Try.underlying30 rfl (by kernel_rfl)) rfl ?_
      exact ⟨_, _, rfl, five_R S.out.r3 S.out.z (by decide) _ _ _ _ _, five_R S.out.r4 S.out.z (by decide) _ _ _ _ _, five_below S.out.b gZ0 _ _ _ _ _⟩
end Go.Proofs.Ytpfiecjacpbhkaa.D

namespace Go.Proofs.Ytpfiecjacpbhkaa.D
open Go.RowKit Go.Proofs.YtpfiecjacpbhkaaW.PrintWords Go.Proofs.YtpfiecjacpbhkaaW.PrintLast Go.Proofs.YtpfiecjacpbhkaaW.PrintMore
attribute [local go_sem] max2_int min2_int max_two min_two max_three min_three max_four min_four
set_option linter.unusedVariables false
set_option linter.unusedSimpArgs false
attribute [local go_sem high] eqA52
def insolvencyref33_SameRulings.l0 : Nat → List (S52) → List (S52) → Int → Option (Bool)
 | 0, _, _, _ => none
 | k + 1, x0, x1, x5 => if x5 < (x0.length : Int) then (if 0 ≤ x5 then (if x5 < (x1.length : Int) then (if (!(((rd_T52 x0 x5).f0) == ((rd_T52 x1 x5).f0)) || (!(((rd_T52 x0 x5).f1) == ((rd_T52 x1 x5).f1)) || (!(((rd_T52 x0 x5).f2) == ((rd_T52 x1 x5).f2))))) = true then (none) else (insolvencyref33_SameRulings.l0 k x0 x1 (wrap64 (x5 + 1)))) else (none)) else (none)) else (some true)
def insolvencyref33_SameRulings.f (k : Nat) (l0 : List (S52)) (l1 : List (S52)) : Option (Bool) := if (l0.length : Int) = (l1.length : Int) then (insolvencyref33_SameRulings.l0 k l0 l1 0) else (none)
theorem insolvencyref33_SameRulings.mono_l : ∀ k, (∀ y0 y1 y2, LeO (insolvencyref33_SameRulings.l0 k y0 y1 y2) (insolvencyref33_SameRulings.l0 (k + 1) y0 y1 y2))
 | 0 => fun _ _ _ r h => by simp [insolvencyref33_SameRulings.l0] at h
 | k + 1 => by
  have ih0 := insolvencyref33_SameRulings.mono_l k
  ·intro y0 y1 y2
   unfold insolvencyref33_SameRulings.l0
   repeat' first
   | (with_reducible exact ih0 _ _ _)
   | (with_reducible exact LeO.refl _)
   | (with_reducible exact LeO.none _)
   | (with_reducible refine LeO.ite ?_ ?_)
   | (with_reducible refine LeO.bind ?_ (fun _ => ?_))
   | exact ih0 _ _ _
   | exact LeO.none _
   | refine LeO.ite ?_ ?_
   | refine LeO.bind ?_ (fun _ => ?_)
theorem insolvencyref33_SameRulings.mono : ∀ a0 a1 k, LeO (insolvencyref33_SameRulings.f k a0 a1) (insolvencyref33_SameRulings.f (k + 1) a0 a1) := by
 intro a0 a1 k
 have ih0 := insolvencyref33_SameRulings.mono_l k
 unfold insolvencyref33_SameRulings.f
 repeat' first
   | (with_reducible exact ih0 _ _ _)
   | (with_reducible exact LeO.refl _)
   | (with_reducible exact LeO.none _)
   | (with_reducible refine LeO.ite ?_ ?_)
   | (with_reducible refine LeO.bind ?_ (fun _ => ?_))
   | exact ih0 _ _ _
   | exact LeO.none _
   | refine LeO.ite ?_ ?_
   | refine LeO.bind ?_ (fun _ => ?_)
set_option maxHeartbeats 8000000 in
set_option maxRecDepth 100000 in
theorem insolvencyref33_SameRulings.calls (k : Nat) (A0 : Option Addr) (c0 : Nat) (l0 : List (S52)) (A1 : Option Addr) (c1 : Nat) (l1 : List (S52)) (r : Bool) (w : World) (hr0 : Kd.C k52 w A0 l0.length l0) (hc0 : l0.length ≤ c0) (hr1 : Kd.C k52 w A1 l1.length l1) (hc1 : l1.length ≤ c1) (h : insolvencyref33_SameRulings.f k l0 l1 = some r) :
  Calls Try.prog 16 #[.slice A0 l0.length c0, .slice A1 l1.length c1] w fun e w' => e = .returned (.bool r) ∧ Drawn0 w w' := by
 have hu52 := Try.underlying52
 have HR0 := Aside0.mk hr0
 have HC0 := Aside0.mk hc0
 clear hr0 hc0
 have HR1 := Aside0.mk hr1
 have HC1 := Aside0.mk hc1
 clear hr1 hc1
 have H : (if (l0.length : Int) = (l1.length : Int) then (insolvencyref33_SameRulings.l0 k l0 l1 0) else (none)) = some r := h
 clear h
 by_cases c3 : (l0.length : Int) = (l1.length : Int)
 ·rw [if_pos c3] at H
  have c3b0 : ((l0.length : Int) == (l1.length : Int)) = true := beq_iff_eq.mpr c3
  have c3b1 : ((l0.length : Int) != (l1.length : Int)) = false := bne_eq_false_iff_eq.mpr c3
  have c3b2 : (l0.length == l1.length) = true := by first | simpa using c3 | (simp at c3 ⊢; omega)
  clear c3
  have H' := Aside0.mk H
  clear H
  go_enter Try.func16, Try.ntmps16
  go_wp2
  repeat (go_quiet (fail); try go_wp2)
  go_loopg [5] k (fun kq v5 w' => ∃ (x5_1 : Int), v5 = .int .i64 x5_1 ∧ Aside0 (insolvencyref33_SameRulings.l0 kq l0 l1 x5_1 = some r) ∧ Aside0 (kq ≤ k) ∧ Drawn0 w w')
  case atStart => exact ⟨(0), (by first | rfl | (simp; done) | (simp [*]; done)), H', ⟨Nat.le_refl _⟩, by repeat (first | exact Drawn0.refl _ | apply Drawn0.step)⟩
  case round =>
   clear H'
   try clear c1
   try clear p2
   try clear c3
   try clear c3b0
   try clear c3b1
   try clear c3b2
   obtain ⟨x5_1, rfl, HA, HK1, ⟨m1, rfl⟩⟩ := hrel
   cases gk with
   | zero => exact absurd HA.out (by simp [insolvencyref33_SameRulings.l0])
   | succ k1 =>
    have H := HA.out
    clear HA
    simp only [insolvencyref33_SameRulings.l0] at H
    by_cases c4 : x5_1 < (l0.length : Int)
    ·rw [if_pos c4] at H
     have c4b0 : decide (x5_1 < (l0.length : Int)) = true := decide_eq_true c4
     clear c4
     by_cases c5 : 0 ≤ x5_1
     ·rw [if_pos c5] at H
      have c5b0 : decide (0 ≤ x5_1) = true := decide_eq_true c5
      clear c5
      by_cases c6 : x5_1 < (l1.length : Int)
      ·rw [if_pos c6] at H
       have c6b0 : decide (x5_1 < (l1.length : Int)) = true := decide_eq_true c6
       clear c6
       by_cases c7 : (!(((rd_T52 l0 x5_1).f0) == ((rd_T52 l1 x5_1).f0)) || (!(((rd_T52 l0 x5_1).f1) == ((rd_T52 l1 x5_1).f1)) || (!(((rd_T52 l0 x5_1).f2) == ((rd_T52 l1 x5_1).f2))))) = true
       ·rw [if_pos c7] at H
        exact absurd H (by simp)
       ·rw [if_neg c7] at H
        have c7b0 : (!(((rd_T52 l0 x5_1).f0) == ((rd_T52 l1 x5_1).f0)) || (!(((rd_T52 l0 x5_1).f1) == ((rd_T52 l1 x5_1).f1)) || (!(((rd_T52 l0 x5_1).f2) == ((rd_T52 l1 x5_1).f2))))) = false := by simpa using c7
        clear c7
        have H' := Aside0.mk H
        clear H
        have p431 : 0 ≤ (x5_1 : Int) := of_decide_eq_true (by first | (with_reducible assumption) | assumption)
        have q431 : x5_1 < (l0.length : Int) := of_decide_eq_true (by first | (with_reducible assumption) | assumption)
        obtain ⟨ad431, e431, hx431_0, hx431_1, hx431_2⟩ := at_T52 HR0.out x5_1 p431 q431
        cases e431
        replace p431 := eq_true p431
        replace q431 := eq_true q431
        have p432 : 0 ≤ (x5_1 : Int) := of_decide_eq_true (by first | (with_reducible assumption) | assumption)
        have q432 : x5_1 < (l1.length : Int) := of_decide_eq_true (by first | (with_reducible assumption) | assumption)
        obtain ⟨ad432, e432, hx432_0, hx432_1, hx432_2⟩ := at_T52 HR1.out x5_1 p432 q432
        cases e432
        replace p432 := eq_true p432
        replace q432 := eq_true q432
        go_wp2
        repeat (go_quiet (fail); try go_wp2)
        go_roundg k1
        case measure => have := HK1.out; omega
        case rel => exact ⟨(wrap64 (x5_1 + 1)), (by first | rfl | (simp; done) | (simp [*]; done)), H', ⟨by have := HK1.out; omega⟩, by repeat (first | exact Drawn0.refl _ | apply Drawn0.step)⟩
      ·rw [if_neg c6] at H
       exact absurd H (by simp)
     ·rw [if_neg c5] at H
      exact absurd H (by simp)
    ·rw [if_neg c4] at H
     have c4b0 : decide (x5_1 < (l0.length : Int)) = false := decide_eq_false c4
     clear c4
     obtain rfl := Option.some.inj H
     go_wp2
     repeat (go_quiet (fail); try go_wp2)
     go_ret
     exact ⟨by first | rfl | (simp; done) | (simp [*]; done), by repeat (first | exact Drawn0.refl _ | apply Drawn0.step)⟩
 ·rw [if_neg c3] at H
  exact absurd H (by simp)
end Go.Proofs.Ytpfiecjacpbhkaa.D

namespace Go.Proofs.Ytpfiecjacpbhkaa.D
open Go.RowKit Go.Proofs.YtpfiecjacpbhkaaW.PrintWords Go.Proofs.YtpfiecjacpbhkaaW.PrintLast Go.Proofs.YtpfiecjacpbhkaaW.PrintMore
attribute [local go_sem] max2_int min2_int max_two min_two max_three min_three max_four min_four
set_option linter.unusedVariables false
set_option linter.unusedSimpArgs false
def insolvencylaw33_DocketTwice.f (k : Nat) (a0_0 : Int) (a0_1 : Int) (l1 : List Int) (l2 : List (S83)) (a3 : Int) (a4 : Int) : Option (Bool) := (insolvencylaw33_built.f k a0_0 a0_1 l1 l2).bind fun bt829 => ((docket_Advance.f k bt829.1 bt829.2.1 bt829.2.2.1 bt829.2.2.2.1 bt829.2.2.2.2 (wrap64 (bt829.1 + (wrap64 (Int.tmod a3 40))))).bind fun bt839 => ((docket_Advance.f k bt839.1 bt839.2.1 bt839.2.2.1 bt839.2.2.2.1 bt839.2.2.2.2.1 (wrap64 ((wrap64 (bt829.1 + (wrap64 (Int.tmod a3 40)))) + (wrap64 (Int.tmod a4 40))))).bind fun bt853 => ((docket_Advance.f k bt829.1 bt829.2.1 bt829.2.2.1 bt829.2.2.2.1 bt829.2.2.2.2 (wrap64 ((wrap64 (bt829.1 + (wrap64 (Int.tmod a3 40)))) + (wrap64 (Int.tmod a4 40))))).bind fun bt867 => ((insolvencylaw33_awake.f k).bind fun t881 => (if t881 = true then (if bt839.2.2.2.2.2.2 = 0 then (if bt853.2.2.2.2.2.2 = 0 then (if bt867.2.2.2.2.2.2 = 0 then ((insolvencyref33_SameDocket.f k bt853.1 bt853.2.1 bt853.2.2.1 bt853.2.2.2.1 bt853.2.2.2.2.1 bt867.1 bt867.2.1 bt867.2.2.1 bt867.2.2.2.1 bt867.2.2.2.2.1).bind fun t882 => (if t882 = true then ((some (([] : List (S52)) : List (S52))).bind fun y883 => (if y883.length + bt839.2.2.2.2.2.1.length < 5864062014805 then ((some (y883 ++ bt839.2.2.2.2.2.1 : List (S52))).bind fun y886 => (if y886.length + bt853.2.2.2.2.2.1.length < 5864062014805 then ((insolvencyref33_SameRulings.f k (y886 ++ bt853.2.2.2.2.2.1) bt867.2.2.2.2.2.1).bind fun t892 => (some t892)) else (none))) else (none))) else (none))) else (none)) else (none)) else (none)) else (none))))))
theorem insolvencylaw33_DocketTwice.mono : ∀ a0 a1 a2 a3 a4 a5 k, LeO (insolvencylaw33_DocketTwice.f k a0 a1 a2 a3 a4 a5) (insolvencylaw33_DocketTwice.f (k + 1) a0 a1 a2 a3 a4 a5) := by
 intro a0 a1 a2 a3 a4 a5 k
 unfold insolvencylaw33_DocketTwice.f
 repeat' first
   | (with_reducible exact docket_Advance.mono _ _ _ _ _ _ _)
   | (with_reducible exact insolvencylaw33_awake.mono _)
   | (with_reducible exact insolvencylaw33_built.mono _ _ _ _ _)
   | (with_reducible exact insolvencyref33_SameDocket.mono _ _ _ _ _ _ _ _ _ _ _)
   | (with_reducible exact insolvencyref33_SameRulings.mono _ _ _)
   | (with_reducible exact LeO.refl _)
   | (with_reducible exact LeO.none _)
   | (with_reducible refine LeO.ite ?_ ?_)
   | (with_reducible refine LeO.bind ?_ (fun _ => ?_))
   | exact docket_Advance.mono _ _ _ _ _ _ _
   | exact insolvencylaw33_awake.mono _
   | exact insolvencylaw33_built.mono _ _ _ _ _
   | exact insolvencyref33_SameDocket.mono _ _ _ _ _ _ _ _ _ _ _
   | exact insolvencyref33_SameRulings.mono _ _ _
   | exact LeO.none _
   | refine LeO.ite ?_ ?_
   | refine LeO.bind ?_ (fun _ => ?_)
set_option maxHeartbeats 8000000 in
set_option maxRecDepth 100000 in
theorem insolvencylaw33_DocketTwice.calls (k : Nat) (a0_0 : Int) (a0_1 : Int) (A1 : Option Addr) (c1 : Nat) (l1 : List Int) (A2 : Option Addr) (c2 : Nat) (l2 : List (S83)) (a3 : Int) (a4 : Int) (r : Bool) (w : World) (hr1 : Kd.C (Kd.int .u16) w A1 l1.length l1) (hc1 : l1.length ≤ c1) (hr2 : Kd.C k83 w A2 l2.length l2) (hc2 : l2.length ≤ c2) (h : insolvencylaw33_DocketTwice.f k a0_0 a0_1 l1 l2 a3 a4 = some r) :
  Calls Try.prog 3 #[.agg #[.int .u8 a0_0, .int .u8 a0_1], .slice A1 l1.length c1, .slice A2 l2.length c2, .int .u8 a3, .int .u8 a4] w fun e w' => e = .returned (.bool r) ∧ Below w.heap.size w w' := by
 have hu22 := Try.underlying22
 have hu30 := Try.underlying30
 have HR1 := Aside0.mk hr1
 have HC1 := Aside0.mk hc1
 clear hr1 hc1
 have HR2 := Aside0.mk hr2
 have HC2 := Aside0.mk hc2
 clear hr2 hc2
 have HB := Aside0.mk (Below.refl w.heap.size w)
 have H : ((insolvencylaw33_built.f k a0_0 a0_1 l1 l2).bind fun bt829 => ((docket_Advance.f k bt829.1 bt829.2.1 bt829.2.2.1 bt829.2.2.2.1 bt829.2.2.2.2 (wrap64 (bt829.1 + (wrap64 (Int.tmod a3 40))))).bind fun bt839 => ((docket_Advance.f k bt839.1 bt839.2.1 bt839.2.2.1 bt839.2.2.2.1 bt839.2.2.2.2.1 (wrap64 ((wrap64 (bt829.1 + (wrap64 (Int.tmod a3 40)))) + (wrap64 (Int.tmod a4 40))))).bind fun bt853 => ((docket_Advance.f k bt829.1 bt829.2.1 bt829.2.2.1 bt829.2.2.2.1 bt829.2.2.2.2 (wrap64 ((wrap64 (bt829.1 + (wrap64 (Int.tmod a3 40)))) + (wrap64 (Int.tmod a4 40))))).bind fun bt867 => ((insolvencylaw33_awake.f k).bind fun t881 => (if t881 = true then (if bt839.2.2.2.2.2.2 = 0 then (if bt853.2.2.2.2.2.2 = 0 then (if bt867.2.2.2.2.2.2 = 0 then ((insolvencyref33_SameDocket.f k bt853.1 bt853.2.1 bt853.2.2.1 bt853.2.2.2.1 bt853.2.2.2.2.1 bt867.1 bt867.2.1 bt867.2.2.1 bt867.2.2.2.1 bt867.2.2.2.2.1).bind fun t882 => (if t882 = true then ((some (([] : List (S52)) : List (S52))).bind fun y883 => (if y883.length + bt839.2.2.2.2.2.1.length < 5864062014805 then ((some (y883 ++ bt839.2.2.2.2.2.1 : List (S52))).bind fun y886 => (if y886.length + bt853.2.2.2.2.2.1.length < 5864062014805 then ((insolvencyref33_SameRulings.f k (y886 ++ bt853.2.2.2.2.2.1) bt867.2.2.2.2.2.1).bind fun t892 => (some t892)) else (none))) else (none))) else (none))) else (none)) else (none)) else (none)) else (none))))))) = some r := h
 clear h
 replace H := Option.bind_eq_some_iff.mp H
 obtain ⟨⟨t829, t830, t831, t832, t835⟩, A60, H⟩ := H
 replace H : ((docket_Advance.f k t829 t830 t831 t832 t835 (wrap64 (t829 + (wrap64 (Int.tmod a3 40))))).bind fun bt839 => ((docket_Advance.f k bt839.1 bt839.2.1 bt839.2.2.1 bt839.2.2.2.1 bt839.2.2.2.2.1 (wrap64 ((wrap64 (t829 + (wrap64 (Int.tmod a3 40)))) + (wrap64 (Int.tmod a4 40))))).bind fun bt853 => ((docket_Advance.f k t829 t830 t831 t832 t835 (wrap64 ((wrap64 (t829 + (wrap64 (Int.tmod a3 40)))) + (wrap64 (Int.tmod a4 40))))).bind fun bt867 => ((insolvencylaw33_awake.f k).bind fun t881 => (if t881 = true then (if bt839.2.2.2.2.2.2 = 0 then (if bt853.2.2.2.2.2.2 = 0 then (if bt867.2.2.2.2.2.2 = 0 then ((insolvencyref33_SameDocket.f k bt853.1 bt853.2.1 bt853.2.2.1 bt853.2.2.2.1 bt853.2.2.2.2.1 bt867.1 bt867.2.1 bt867.2.2.1 bt867.2.2.2.1 bt867.2.2.2.2.1).bind fun t882 => (if t882 = true then ((some (([] : List (S52)) : List (S52))).bind fun y883 => (if y883.length + bt839.2.2.2.2.2.1.length < 5864062014805 then ((some (y883 ++ bt839.2.2.2.2.2.1 : List (S52))).bind fun y886 => (if y886.length + bt853.2.2.2.2.2.1.length < 5864062014805 then ((insolvencyref33_SameRulings.f k (y886 ++ bt853.2.2.2.2.2.1) bt867.2.2.2.2.2.1).bind fun t892 => (some t892)) else (none))) else (none))) else (none))) else (none)) else (none)) else (none)) else (none)))))) = some r := H
 have A6 := Aside0.mk A60
 clear A60
 replace H := Option.bind_eq_some_iff.mp H
 obtain ⟨⟨t839, t840, t841, t842, t845, t848, t851⟩, A70, H⟩ := H
 replace H : ((docket_Advance.f k t839 t840 t841 t842 t845 (wrap64 ((wrap64 (t829 + (wrap64 (Int.tmod a3 40)))) + (wrap64 (Int.tmod a4 40))))).bind fun bt853 => ((docket_Advance.f k t829 t830 t831 t832 t835 (wrap64 ((wrap64 (t829 + (wrap64 (Int.tmod a3 40)))) + (wrap64 (Int.tmod a4 40))))).bind fun bt867 => ((insolvencylaw33_awake.f k).bind fun t881 => (if t881 = true then (if t851 = 0 then (if bt853.2.2.2.2.2.2 = 0 then (if bt867.2.2.2.2.2.2 = 0 then ((insolvencyref33_SameDocket.f k bt853.1 bt853.2.1 bt853.2.2.1 bt853.2.2.2.1 bt853.2.2.2.2.1 bt867.1 bt867.2.1 bt867.2.2.1 bt867.2.2.2.1 bt867.2.2.2.2.1).bind fun t882 => (if t882 = true then ((some (([] : List (S52)) : List (S52))).bind fun y883 => (if y883.length + t848.length < 5864062014805 then ((some (y883 ++ t848 : List (S52))).bind fun y886 => (if y886.length + bt853.2.2.2.2.2.1.length < 5864062014805 then ((insolvencyref33_SameRulings.f k (y886 ++ bt853.2.2.2.2.2.1) bt867.2.2.2.2.2.1).bind fun t892 => (some t892)) else (none))) else (none))) else (none))) else (none)) else (none)) else (none)) else (none))))) = some r := H
 have A7 := Aside0.mk A70
 clear A70
 replace H := Option.bind_eq_some_iff.mp H
 obtain ⟨⟨t853, t854, t855, t856, t859, t862, t865⟩, A80, H⟩ := H
 replace H : ((docket_Advance.f k t829 t830 t831 t832 t835 (wrap64 ((wrap64 (t829 + (wrap64 (Int.tmod a3 40)))) + (wrap64 (Int.tmod a4 40))))).bind fun bt867 => ((insolvencylaw33_awake.f k).bind fun t881 => (if t881 = true then (if t851 = 0 then (if t865 = 0 then (if bt867.2.2.2.2.2.2 = 0 then ((insolvencyref33_SameDocket.f k t853 t854 t855 t856 t859 bt867.1 bt867.2.1 bt867.2.2.1 bt867.2.2.2.1 bt867.2.2.2.2.1).bind fun t882 => (if t882 = true then ((some (([] : List (S52)) : List (S52))).bind fun y883 => (if y883.length + t848.length < 5864062014805 then ((some (y883 ++ t848 : List (S52))).bind fun y886 => (if y886.length + t862.length < 5864062014805 then ((insolvencyref33_SameRulings.f k (y886 ++ t862) bt867.2.2.2.2.2.1).bind fun t892 => (some t892)) else (none))) else (none))) else (none))) else (none)) else (none)) else (none)) else (none)))) = some r := H
 have A8 := Aside0.mk A80
 clear A80
 replace H := Option.bind_eq_some_iff.mp H
 obtain ⟨⟨t867, t868, t869, t870, t873, t876, t879⟩, A90, H⟩ := H
 replace H : ((insolvencylaw33_awake.f k).bind fun t881 => (if t881 = true then (if t851 = 0 then (if t865 = 0 then (if t879 = 0 then ((insolvencyref33_SameDocket.f k t853 t854 t855 t856 t859 t867 t868 t869 t870 t873).bind fun t882 => (if t882 = true then ((some (([] : List (S52)) : List (S52))).bind fun y883 => (if y883.length + t848.length < 5864062014805 then ((some (y883 ++ t848 : List (S52))).bind fun y886 => (if y886.length + t862.length < 5864062014805 then ((insolvencyref33_SameRulings.f k (y886 ++ t862) t876).bind fun t892 => (some t892)) else (none))) else (none))) else (none))) else (none)) else (none)) else (none)) else (none))) = some r := H
 have A9 := Aside0.mk A90
 clear A90
 replace H := Option.bind_eq_some_iff.mp H
 obtain ⟨t881, A100, H⟩ := H
 replace H : (if t881 = true then (if t851 = 0 then (if t865 = 0 then (if t879 = 0 then ((insolvencyref33_SameDocket.f k t853 t854 t855 t856 t859 t867 t868 t869 t870 t873).bind fun t882 => (if t882 = true then ((some (([] : List (S52)) : List (S52))).bind fun y883 => (if y883.length + t848.length < 5864062014805 then ((some (y883 ++ t848 : List (S52))).bind fun y886 => (if y886.length + t862.length < 5864062014805 then ((insolvencyref33_SameRulings.f k (y886 ++ t862) t876).bind fun t892 => (some t892)) else (none))) else (none))) else (none))) else (none)) else (none)) else (none)) else (none)) = some r := H
 have A10 := Aside0.mk A100
 clear A100
 by_cases c11 : t881 = true
 ·subst c11
  have H1 : (if t851 = 0 then (if t865 = 0 then (if t879 = 0 then ((insolvencyref33_SameDocket.f k t853 t854 t855 t856 t859 t867 t868 t869 t870 t873).bind fun t882 => (if t882 = true then ((some (([] : List (S52)) : List (S52))).bind fun y883 => (if y883.length + t848.length < 5864062014805 then ((some (y883 ++ t848 : List (S52))).bind fun y886 => (if y886.length + t862.length < 5864062014805 then ((insolvencyref33_SameRulings.f k (y886 ++ t862) t876).bind fun t892 => (some t892)) else (none))) else (none))) else (none))) else (none)) else (none)) else (none)) = some r := by rw [if_pos rfl] at H; exact H
  clear H
  have H := H1
  clear H1
  by_cases c12 : t851 = 0
  ·rw [if_pos c12] at H
   have c12b0 : (t851 == 0) = true := beq_iff_eq.mpr c12
   have c12b1 : (t851 != 0) = false := bne_eq_false_iff_eq.mpr c12
   clear c12
   by_cases c13 : t865 = 0
   ·rw [if_pos c13] at H
    have c13b0 : (t865 == 0) = true := beq_iff_eq.mpr c13
    have c13b1 : (t865 != 0) = false := bne_eq_false_iff_eq.mpr c13
    clear c13
    by_cases c14 : t879 = 0
    ·rw [if_pos c14] at H
     have c14b0 : (t879 == 0) = true := beq_iff_eq.mpr c14
     have c14b1 : (t879 != 0) = false := bne_eq_false_iff_eq.mpr c14
     clear c14
     replace H := Option.bind_eq_some_iff.mp H
     obtain ⟨t882, A150, H⟩ := H
     replace H : (if t882 = true then ((some (([] : List (S52)) : List (S52))).bind fun y883 => (if y883.length + t848.length < 5864062014805 then ((some (y883 ++ t848 : List (S52))).bind fun y886 => (if y886.length + t862.length < 5864062014805 then ((insolvencyref33_SameRulings.f k (y886 ++ t862) t876).bind fun t892 => (some t892)) else (none))) else (none))) else (none)) = some r := H
     have A15 := Aside0.mk A150
     clear A150
     by_cases c16 : t882 = true
     ·subst c16
      have H1 : ((some (([] : List (S52)) : List (S52))).bind fun y883 => (if y883.length + t848.length < 5864062014805 then ((some (y883 ++ t848 : List (S52))).bind fun y886 => (if y886.length + t862.length < 5864062014805 then ((insolvencyref33_SameRulings.f k (y886 ++ t862) t876).bind fun t892 => (some t892)) else (none))) else (none))) = some r := by rw [if_pos rfl] at H; exact H
      clear H
      have H := H1
      clear H1
      obtain ⟨y883, hy883⟩ : ∃ y_ : List (S52), y_ = (([] : List (S52))) := ⟨_, rfl⟩
      replace H : (if y883.length + t848.length < 5864062014805 then ((some (y883 ++ t848 : List (S52))).bind fun y886 => (if y886.length + t862.length < 5864062014805 then ((insolvencyref33_SameRulings.f k (y886 ++ t862) t876).bind fun t892 => (some t892)) else (none))) else (none)) = some r := by first | (rw [hy883]; with_reducible exact H) | (have H2_ := (Option.bind_some _ _).symm.trans H; rw [hy883]; with_reducible exact H2_) | (have H2_ := (Option.bind_some _ _).symm.trans H; with_reducible exact H2_) | with_reducible exact H | (rw [hy883]; exact H) | exact H
      have Ny883 := Aside0.mk hy883
      clear hy883
      by_cases c17 : y883.length + t848.length < 5864062014805
      ·rw [if_pos c17] at H
       have LMc17 := Aside0.mk c17
       clear c17
       obtain ⟨y886, hy886⟩ : ∃ y_ : List (S52), y_ = (y883 ++ t848) := ⟨_, rfl⟩
       replace H : (if y886.length + t862.length < 5864062014805 then ((insolvencyref33_SameRulings.f k (y886 ++ t862) t876).bind fun t892 => (some t892)) else (none)) = some r := by first | (rw [hy886]; with_reducible exact H) | (have H2_ := (Option.bind_some _ _).symm.trans H; rw [hy886]; with_reducible exact H2_) | (have H2_ := (Option.bind_some _ _).symm.trans H; with_reducible exact H2_) | with_reducible exact H | (rw [hy886]; exact H) | exact H
       have Ny886 := Aside0.mk hy886
       clear hy886
       by_cases c18 : y886.length + t862.length < 5864062014805
       ·rw [if_pos c18] at H
        have LMc18 := Aside0.mk c18
        clear c18
        obtain ⟨y889, hy889⟩ : ∃ y_ : List (S52), y_ = (y886 ++ t862) := ⟨_, rfl⟩
        replace H : ((insolvencyref33_SameRulings.f k y889 t876).bind fun t892 => (some t892)) = some r := by first | (rw [hy889]; with_reducible exact H) | (have H2_ := (Option.bind_some _ _).symm.trans H; rw [hy889]; with_reducible exact H2_) | (have H2_ := (Option.bind_some _ _).symm.trans H; with_reducible exact H2_) | with_reducible exact H | (rw [hy889]; exact H) | exact H
        have Ny889 := Aside0.mk hy889
        clear hy889
        replace H := Option.bind_eq_some_iff.mp H
        obtain ⟨t892, A190, H⟩ := H
        replace H : (some t892) = some r := H
        have A19 := Aside0.mk A190
        clear A190
        obtain rfl := Option.some.inj H
        go_enter Try.func3, Try.ntmps3
        go_wp2_with (first | ((with_reducible refine gate_dst (N := 5) rfl ?_); (try (refine gate_guard (by rfl) ?_; dsimp only)); refine box_event ?hg (N := 5) ?hd (cs := #[.int .u8 a0_0, .int .u8 a0_1]) (t := 22) ?hr ?_; (case hd => rfl); (case hg => rfl); (case hr => first | (go_simp; done) | (go_simp; rfl)); intro gb828 hg w20 hbox hb; have BK828 := Aside0.mk (hbox); have GW828 := gS HB hg; have GE828 := gS HB hg; replace HB := Aside0.mk (below_step (pB HB) hb); clear hb hbox hg; obtain ⟨hcz21_0, hcz21_1⟩ := cells2 BK828; obtain ⟨hfz21_0, hfz21_1⟩ := frz2 BK828) | ((with_reducible refine gate_callee (f := 12) rfl ?_); refine goesL_ (some 26) rfl rfl Try.func12 (by kernel_rfl) rfl #[.agg #[.int .u8 a0_0, .int .u8 a0_1], .slice A1 l1.length c1, .slice A2 l2.length c2] rfl (by (try simp only [List.map_toArray, List.map_cons, List.map_nil]); first | done | rfl | (simp only [List.length_drop, List.length_take]; rfl)) ?_; (with_reducible refine (insolvencylaw33_built.calls k a0_0 a0_1 _ _ l1 _ _ l2 t829 t830 t831 t832 t835 _ ?side1 ?side2 ?side3 ?side4 A6.out).mono ?_); (case side1 => exact cB HR1 HB); (case side2 => exact HC1.out); (case side3 => exact cB HR2 HB); (case side4 => exact HC2.out); rintro e w22 ⟨v833, v836, rfl, ho0, ho1, hb⟩; refine ⟨_, rfl, ?_⟩; have HO834 := Aside0.mk (Kd.R_lower ho0 (below_size (pB HB))); have HO837 := Aside0.mk (Kd.R_lower ho1 (below_size (pB HB))); replace BK828 := bB BK828 hb; replace HB := Aside0.mk (below_step (pB HB) hb); (try clear hb); (try clear ho0); (try clear ho1)) | ((with_reducible refine gate_dst (N := 11) rfl ?_); (try (refine gate_guard (by rfl) ?_; dsimp only)); refine box_event ?hg (N := 11) ?hd (cs := #[.int .i64 0, .int .i64 0, .int .i64 0, .slice none 0 0, .slice none 0 0]) (t := 30) ?hr ?_; (case hd => rfl); (case hg => rfl); (case hr => first | (go_simp; done) | (go_simp; rfl)); intro gb838 hg w23 hbox hb; have BK838 := Aside0.mk (hbox); have GW838 := gS HB hg; have GE838 := gS HB hg; have NB828_838 := nL BK828 hg; have NB838_828 := nG BK828 hg; replace HO834 := rB HO834 hb; replace HO837 := rB HO837 hb; replace BK828 := bB BK828 hb; replace HB := Aside0.mk (below_step (pB HB) hb); clear hb hbox hg; have hnb24 := NB838_828.out; have hnc24 := NB828_838.out; obtain ⟨hcz25_0, hcz25_1, hcz25_2, hcz25_3, hcz25_4⟩ := cells5 BK838; obtain ⟨hfz25_0, hfz25_1, hfz25_2, hfz25_3, hfz25_4⟩ := frz5 BK838; obtain ⟨Ao26, co26, eo26⟩ := Kd.R_slice HO834.out; subst eo26; obtain ⟨Ao27, co27, eo27⟩ := Kd.R_slice HO837.out; subst eo27) | ((with_reducible refine gate_callee (f := 13) rfl ?_); refine goesL_ (some 41) rfl rfl Try.func13 (by kernel_rfl) rfl #[.agg #[.int .i64 t829, .int .i64 t830, .int .i64 t831, .slice Ao26 t832.length co26, .slice Ao27 t835.length co27], .int .i64 (wrap64 (t829 + (wrap64 (Int.tmod a3 40))))] rfl (by (try simp only [List.map_toArray, List.map_cons, List.map_nil]); first | done | rfl | (simp only [List.length_drop, List.length_take]; rfl)) ?_; (with_reducible refine (docket_Advance.calls k t829 t830 t831 _ _ t832 _ _ t835 (wrap64 (t829 + (wrap64 (Int.tmod a3 40)))) t839 t840 t841 t842 t845 t848 t851 _ ?side1 ?side2 ?side3 ?side4 A7.out).mono ?_); (case side1 => refine (Kd.R_reads' (e := 3) (base := w.heap.size) (ok := fun k_ => True) (n := t832.length) (c := co26) ?_).2.2; exact (by (with_reducible repeat (first | apply Kd.R_alloc | apply Kd.R_drewN | apply Kd.R_drew)); exact (Kd.R_mono (Kd.R_far (p := ⟨gb838, 4, none⟩) (Kd.R_far (p := ⟨gb838, 3, none⟩) (Kd.R_far (p := ⟨gb838, 2, none⟩) (Kd.R_far (p := ⟨gb838, 1, none⟩) (Kd.R_far (p := ⟨gb838, 0, none⟩) (Kd.R_types HO834.out BK838.out (by decide)) (fun _ hk => hk.2) (.int .i64 t829)) (fun _ hk => hk.2) (.int .i64 t830)) (fun _ hk => hk.2) (.int .i64 t831)) (fun _ hk => hk.2) (.slice Ao26 t832.length co26)) (fun _ hk => hk.2) (.slice Ao27 t835.length co27)) (fun _ h_ => h_.1)))); (case side2 => exact (Kd.R_reads' HO834.out).2.1); (case side3 => refine (Kd.R_reads' (e := 50) (base := w.heap.size) (ok := fun k_ => True) (n := t835.length) (c := co27) ?_).2.2; exact (by (with_reducible repeat (first | apply Kd.R_alloc | apply Kd.R_drewN | apply Kd.R_drew)); exact (Kd.R_mono (Kd.R_far (p := ⟨gb838, 4, none⟩) (Kd.R_far (p := ⟨gb838, 3, none⟩) (Kd.R_far (p := ⟨gb838, 2, none⟩) (Kd.R_far (p := ⟨gb838, 1, none⟩) (Kd.R_far (p := ⟨gb838, 0, none⟩) (Kd.R_types HO837.out BK838.out (by decide)) (fun _ hk => hk.2) (.int .i64 t829)) (fun _ hk => hk.2) (.int .i64 t830)) (fun _ hk => hk.2) (.int .i64 t831)) (fun _ hk => hk.2) (.slice Ao26 t832.length co26)) (fun _ hk => hk.2) (.slice Ao27 t835.length co27)) (fun _ h_ => h_.1)))); (case side4 => exact (Kd.R_reads' HO837.out).2.1); rintro e w28 ⟨v843, v846, v849, rfl, ho0, ho1, ho2, hb⟩; refine ⟨_, rfl, ?_⟩; have HO844 := Aside0.mk (Kd.R_lower (Kd.R_new' ho0 (Kd.R_lt (by (with_reducible repeat (first | apply Kd.R_alloc | apply Kd.R_drewN | apply Kd.R_drew)); exact (Kd.R_mono (Kd.R_far (p := ⟨gb838, 4, none⟩) (Kd.R_far (p := ⟨gb838, 3, none⟩) (Kd.R_far (p := ⟨gb838, 2, none⟩) (Kd.R_far (p := ⟨gb838, 1, none⟩) (Kd.R_far (p := ⟨gb838, 0, none⟩) (Kd.R_types HO834.out BK838.out (by decide)) (fun _ hk => hk.2) (.int .i64 t829)) (fun _ hk => hk.2) (.int .i64 t830)) (fun _ hk => hk.2) (.int .i64 t831)) (fun _ hk => hk.2) (.slice Ao26 t832.length co26)) (fun _ hk => hk.2) (.slice Ao27 t835.length co27)) (fun _ h_ => h_.1))))) (below_size (pB HB))); have HO847 := Aside0.mk (Kd.R_lower (Kd.R_new' ho1 (Kd.R_lt (by (with_reducible repeat (first | apply Kd.R_alloc | apply Kd.R_drewN | apply Kd.R_drew)); exact (Kd.R_mono (Kd.R_far (p := ⟨gb838, 4, none⟩) (Kd.R_far (p := ⟨gb838, 3, none⟩) (Kd.R_far (p := ⟨gb838, 2, none⟩) (Kd.R_far (p := ⟨gb838, 1, none⟩) (Kd.R_far (p := ⟨gb838, 0, none⟩) (Kd.R_types HO837.out BK838.out (by decide)) (fun _ hk => hk.2) (.int .i64 t829)) (fun _ hk => hk.2) (.int .i64 t830)) (fun _ hk => hk.2) (.int .i64 t831)) (fun _ hk => hk.2) (.slice Ao26 t832.length co26)) (fun _ hk => hk.2) (.slice Ao27 t835.length co27)) (fun _ h_ => h_.1))))) (below_size (pB HB))); have HO850 := Aside0.mk (Kd.R_lower ho2 (below_size (pB HB))); replace HO834 := Aside0.mk (Kd.R_elder' (by (with_reducible repeat (first | apply Kd.R_alloc | apply Kd.R_drewN | apply Kd.R_drew)); exact (Kd.R_mono (Kd.R_far (p := ⟨gb838, 4, none⟩) (Kd.R_far (p := ⟨gb838, 3, none⟩) (Kd.R_far (p := ⟨gb838, 2, none⟩) (Kd.R_far (p := ⟨gb838, 1, none⟩) (Kd.R_far (p := ⟨gb838, 0, none⟩) (Kd.R_types HO834.out BK838.out (by decide)) (fun _ hk => hk.2) (.int .i64 t829)) (fun _ hk => hk.2) (.int .i64 t830)) (fun _ hk => hk.2) (.int .i64 t831)) (fun _ hk => hk.2) (.slice Ao26 t832.length co26)) (fun _ hk => hk.2) (.slice Ao27 t835.length co27)) (fun _ h_ => h_.1))) (Kd.R_base ho0) hb); replace HO837 := Aside0.mk (Kd.R_elder' (by (with_reducible repeat (first | apply Kd.R_alloc | apply Kd.R_drewN | apply Kd.R_drew)); exact (Kd.R_mono (Kd.R_far (p := ⟨gb838, 4, none⟩) (Kd.R_far (p := ⟨gb838, 3, none⟩) (Kd.R_far (p := ⟨gb838, 2, none⟩) (Kd.R_far (p := ⟨gb838, 1, none⟩) (Kd.R_far (p := ⟨gb838, 0, none⟩) (Kd.R_types HO837.out BK838.out (by decide)) (fun _ hk => hk.2) (.int .i64 t829)) (fun _ hk => hk.2) (.int .i64 t830)) (fun _ hk => hk.2) (.int .i64 t831)) (fun _ hk => hk.2) (.slice Ao26 t832.length co26)) (fun _ hk => hk.2) (.slice Ao27 t835.length co27)) (fun _ h_ => h_.1))) (Kd.R_base ho1) hb); replace BK828 := Aside0.mk (blk_below (g := gb828) (o := .cells #[.int .u8 a0_0, .int .u8 a0_1] 22 (0, 0)) (by (with_reducible repeat (first | refine blk_drewN ?_ _ | refine blk_drew ?_ | refine blk_alloc ?_ _)); refine blk_far ?_ NB828_838.out _; (with_reducible repeat (first | refine blk_drewN ?_ _ | refine blk_drew ?_ | refine blk_alloc ?_ _)); refine blk_far ?_ NB828_838.out _; (with_reducible repeat (first | refine blk_drewN ?_ _ | refine blk_drew ?_ | refine blk_alloc ?_ _)); refine blk_far ?_ NB828_838.out _; (with_reducible repeat (first | refine blk_drewN ?_ _ | refine blk_drew ?_ | refine blk_alloc ?_ _)); refine blk_far ?_ NB828_838.out _; (with_reducible repeat (first | refine blk_drewN ?_ _ | refine blk_drew ?_ | refine blk_alloc ?_ _)); refine blk_far ?_ NB828_838.out _; (with_reducible repeat (first | refine blk_drewN ?_ _ | refine blk_drew ?_ | refine blk_alloc ?_ _)); exact BK828.out) hb); replace BK838 := Aside0.mk (blk_below (g := gb838) (o := .cells #[.int .i64 t829, .int .i64 t830, .int .i64 t831, .slice Ao26 t832.length co26, .slice Ao27 t835.length co27] 30 (0, 0)) (by (with_reducible repeat (first | refine blk_drewN ?_ _ | refine blk_drew ?_ | refine blk_alloc ?_ _)); refine blk_put (cs := #[.int .i64 t829, .int .i64 t830, .int .i64 t831, .slice Ao26 t832.length co26, .slice none 0 0]) ?_ 4 _ rfl; (with_reducible repeat (first | refine blk_drewN ?_ _ | refine blk_drew ?_ | refine blk_alloc ?_ _)); refine blk_put (cs := #[.int .i64 t829, .int .i64 t830, .int .i64 t831, .slice none 0 0, .slice none 0 0]) ?_ 3 _ rfl; (with_reducible repeat (first | refine blk_drewN ?_ _ | refine blk_drew ?_ | refine blk_alloc ?_ _)); refine blk_put (cs := #[.int .i64 t829, .int .i64 t830, .int .i64 0, .slice none 0 0, .slice none 0 0]) ?_ 2 _ rfl; (with_reducible repeat (first | refine blk_drewN ?_ _ | refine blk_drew ?_ | refine blk_alloc ?_ _)); refine blk_put (cs := #[.int .i64 t829, .int .i64 0, .int .i64 0, .slice none 0 0, .slice none 0 0]) ?_ 1 _ rfl; (with_reducible repeat (first | refine blk_drewN ?_ _ | refine blk_drew ?_ | refine blk_alloc ?_ _)); refine blk_put (cs := #[.int .i64 0, .int .i64 0, .int .i64 0, .slice none 0 0, .slice none 0 0]) ?_ 0 _ rfl; (with_reducible repeat (first | refine blk_drewN ?_ _ | refine blk_drew ?_ | refine blk_alloc ?_ _)); exact BK838.out) hb); replace HB := Aside0.mk (below_step (pB HB) hb); (try clear hb); (try clear ho0); (try clear ho1); (try clear ho2)) | ((with_reducible refine gate_dst (N := 14) rfl ?_); (try (refine gate_guard (by rfl) ?_; dsimp only)); refine box_event ?hg (N := 14) ?hd (cs := #[.int .i64 0, .int .i64 0, .int .i64 0, .slice none 0 0, .slice none 0 0]) (t := 30) ?hr ?_; (case hd => rfl); (case hg => rfl); (case hr => first | (go_simp; done) | (go_simp; rfl)); intro gb852 hg w29 hbox hb; have BK852 := Aside0.mk (hbox); have GW852 := gS HB hg; have GE852 := gS HB hg; have NB828_852 := nL BK828 hg; have NB852_828 := nG BK828 hg; have NB838_852 := nL BK838 hg; have NB852_838 := nG BK838 hg; replace HO834 := rB HO834 hb; replace HO837 := rB HO837 hb; replace HO844 := rB HO844 hb; replace HO847 := rB HO847 hb; replace HO850 := rB HO850 hb; replace BK828 := bB BK828 hb; replace BK838 := bB BK838 hb; replace HB := Aside0.mk (below_step (pB HB) hb); clear hb hbox hg; have hnb30 := NB852_828.out; have hnc30 := NB828_852.out; have hnb31 := NB852_838.out; have hnc31 := NB838_852.out; obtain ⟨hcz32_0, hcz32_1, hcz32_2, hcz32_3, hcz32_4⟩ := cells5 BK852; obtain ⟨hfz32_0, hfz32_1, hfz32_2, hfz32_3, hfz32_4⟩ := frz5 BK852; obtain ⟨Ao33, co33, eo33⟩ := Kd.R_slice HO844.out; subst eo33; obtain ⟨Ao34, co34, eo34⟩ := Kd.R_slice HO847.out; subst eo34) | ((with_reducible refine gate_callee (f := 13) rfl ?_); refine goesL_ (some 48) rfl rfl Try.func13 (by kernel_rfl) rfl #[.agg #[.int .i64 t839, .int .i64 t840, .int .i64 t841, .slice Ao33 t842.length co33, .slice Ao34 t845.length co34], .int .i64 (wrap64 ((wrap64 (t829 + (wrap64 (Int.tmod a3 40)))) + (wrap64 (Int.tmod a4 40))))] rfl (by (try simp only [List.map_toArray, List.map_cons, List.map_nil]); first | done | rfl | (simp only [List.length_drop, List.length_take]; rfl)) ?_; (with_reducible refine (docket_Advance.calls k t839 t840 t841 _ _ t842 _ _ t845 (wrap64 ((wrap64 (t829 + (wrap64 (Int.tmod a3 40)))) + (wrap64 (Int.tmod a4 40)))) t853 t854 t855 t856 t859 t862 t865 _ ?side1 ?side2 ?side3 ?side4 A8.out).mono ?_); (case side1 => refine (Kd.R_reads' (e := 3) (base := w.heap.size) (ok := fun k_ => (True ∧ some k_ ≠ (.slice Ao26 t832.length co26 : Value).ownBlock)) (n := t842.length) (c := co33) ?_).2.2; exact (by (with_reducible repeat (first | apply Kd.R_alloc | apply Kd.R_drewN | apply Kd.R_drew)); exact (Kd.R_mono (Kd.R_far (p := ⟨gb852, 4, none⟩) (Kd.R_far (p := ⟨gb852, 3, none⟩) (Kd.R_far (p := ⟨gb852, 2, none⟩) (Kd.R_far (p := ⟨gb852, 1, none⟩) (Kd.R_far (p := ⟨gb852, 0, none⟩) (Kd.R_types HO844.out BK852.out (by decide)) (fun _ hk => hk.2) (.int .i64 t839)) (fun _ hk => hk.2) (.int .i64 t840)) (fun _ hk => hk.2) (.int .i64 t841)) (fun _ hk => hk.2) (.slice Ao33 t842.length co33)) (fun _ hk => hk.2) (.slice Ao34 t845.length co34)) (fun _ h_ => h_.1)))); (case side2 => exact (Kd.R_reads' HO844.out).2.1); (case side3 => refine (Kd.R_reads' (e := 50) (base := w.heap.size) (ok := fun k_ => (True ∧ some k_ ≠ (.slice Ao27 t835.length co27 : Value).ownBlock)) (n := t845.length) (c := co34) ?_).2.2; exact (by (with_reducible repeat (first | apply Kd.R_alloc | apply Kd.R_drewN | apply Kd.R_drew)); exact (Kd.R_mono (Kd.R_far (p := ⟨gb852, 4, none⟩) (Kd.R_far (p := ⟨gb852, 3, none⟩) (Kd.R_far (p := ⟨gb852, 2, none⟩) (Kd.R_far (p := ⟨gb852, 1, none⟩) (Kd.R_far (p := ⟨gb852, 0, none⟩) (Kd.R_types HO847.out BK852.out (by decide)) (fun _ hk => hk.2) (.int .i64 t839)) (fun _ hk => hk.2) (.int .i64 t840)) (fun _ hk => hk.2) (.int .i64 t841)) (fun _ hk => hk.2) (.slice Ao33 t842.length co33)) (fun _ hk => hk.2) (.slice Ao34 t845.length co34)) (fun _ h_ => h_.1)))); (case side4 => exact (Kd.R_reads' HO847.out).2.1); rintro e w35 ⟨v857, v860, v863, rfl, ho0, ho1, ho2, hb⟩; refine ⟨_, rfl, ?_⟩; have HO858 := Aside0.mk (Kd.R_lower (Kd.R_new' (Kd.R_new' ho0 (Kd.R_lt (by (with_reducible repeat (first | apply Kd.R_alloc | apply Kd.R_drewN | apply Kd.R_drew)); exact (Kd.R_mono (Kd.R_far (p := ⟨gb852, 4, none⟩) (Kd.R_far (p := ⟨gb852, 3, none⟩) (Kd.R_far (p := ⟨gb852, 2, none⟩) (Kd.R_far (p := ⟨gb852, 1, none⟩) (Kd.R_far (p := ⟨gb852, 0, none⟩) (Kd.R_types HO834.out BK852.out (by decide)) (fun _ hk => hk.2) (.int .i64 t839)) (fun _ hk => hk.2) (.int .i64 t840)) (fun _ hk => hk.2) (.int .i64 t841)) (fun _ hk => hk.2) (.slice Ao33 t842.length co33)) (fun _ hk => hk.2) (.slice Ao34 t845.length co34)) (fun _ h_ => h_.1))))) (Kd.R_lt (by (with_reducible repeat (first | apply Kd.R_alloc | apply Kd.R_drewN | apply Kd.R_drew)); exact (Kd.R_mono (Kd.R_far (p := ⟨gb852, 4, none⟩) (Kd.R_far (p := ⟨gb852, 3, none⟩) (Kd.R_far (p := ⟨gb852, 2, none⟩) (Kd.R_far (p := ⟨gb852, 1, none⟩) (Kd.R_far (p := ⟨gb852, 0, none⟩) (Kd.R_types HO844.out BK852.out (by decide)) (fun _ hk => hk.2) (.int .i64 t839)) (fun _ hk => hk.2) (.int .i64 t840)) (fun _ hk => hk.2) (.int .i64 t841)) (fun _ hk => hk.2) (.slice Ao33 t842.length co33)) (fun _ hk => hk.2) (.slice Ao34 t845.length co34)) (fun _ h_ => h_.1))))) (below_size (pB HB))); have HO861 := Aside0.mk (Kd.R_lower (Kd.R_new' (Kd.R_new' ho1 (Kd.R_lt (by (with_reducible repeat (first | apply Kd.R_alloc | apply Kd.R_drewN | apply Kd.R_drew)); exact (Kd.R_mono (Kd.R_far (p := ⟨gb852, 4, none⟩) (Kd.R_far (p := ⟨gb852, 3, none⟩) (Kd.R_far (p := ⟨gb852, 2, none⟩) (Kd.R_far (p := ⟨gb852, 1, none⟩) (Kd.R_far (p := ⟨gb852, 0, none⟩) (Kd.R_types HO837.out BK852.out (by decide)) (fun _ hk => hk.2) (.int .i64 t839)) (fun _ hk => hk.2) (.int .i64 t840)) (fun _ hk => hk.2) (.int .i64 t841)) (fun _ hk => hk.2) (.slice Ao33 t842.length co33)) (fun _ hk => hk.2) (.slice Ao34 t845.length co34)) (fun _ h_ => h_.1))))) (Kd.R_lt (by (with_reducible repeat (first | apply Kd.R_alloc | apply Kd.R_drewN | apply Kd.R_drew)); exact (Kd.R_mono (Kd.R_far (p := ⟨gb852, 4, none⟩) (Kd.R_far (p := ⟨gb852, 3, none⟩) (Kd.R_far (p := ⟨gb852, 2, none⟩) (Kd.R_far (p := ⟨gb852, 1, none⟩) (Kd.R_far (p := ⟨gb852, 0, none⟩) (Kd.R_types HO847.out BK852.out (by decide)) (fun _ hk => hk.2) (.int .i64 t839)) (fun _ hk => hk.2) (.int .i64 t840)) (fun _ hk => hk.2) (.int .i64 t841)) (fun _ hk => hk.2) (.slice Ao33 t842.length co33)) (fun _ hk => hk.2) (.slice Ao34 t845.length co34)) (fun _ h_ => h_.1))))) (below_size (pB HB))); have HO864 := Aside0.mk (Kd.R_lower (Kd.R_new' ho2 (Kd.R_lt (by (with_reducible repeat (first | apply Kd.R_alloc | apply Kd.R_drewN | apply Kd.R_drew)); exact (Kd.R_mono (Kd.R_far (p := ⟨gb852, 4, none⟩) (Kd.R_far (p := ⟨gb852, 3, none⟩) (Kd.R_far (p := ⟨gb852, 2, none⟩) (Kd.R_far (p := ⟨gb852, 1, none⟩) (Kd.R_far (p := ⟨gb852, 0, none⟩) (Kd.R_types HO850.out BK852.out (by decide)) (fun _ hk => hk.2) (.int .i64 t839)) (fun _ hk => hk.2) (.int .i64 t840)) (fun _ hk => hk.2) (.int .i64 t841)) (fun _ hk => hk.2) (.slice Ao33 t842.length co33)) (fun _ hk => hk.2) (.slice Ao34 t845.length co34)) (fun _ h_ => h_.1))))) (below_size (pB HB))); replace HO834 := Aside0.mk (Kd.R_elder' (by (with_reducible repeat (first | apply Kd.R_alloc | apply Kd.R_drewN | apply Kd.R_drew)); exact (Kd.R_mono (Kd.R_far (p := ⟨gb852, 4, none⟩) (Kd.R_far (p := ⟨gb852, 3, none⟩) (Kd.R_far (p := ⟨gb852, 2, none⟩) (Kd.R_far (p := ⟨gb852, 1, none⟩) (Kd.R_far (p := ⟨gb852, 0, none⟩) (Kd.R_types HO834.out BK852.out (by decide)) (fun _ hk => hk.2) (.int .i64 t839)) (fun _ hk => hk.2) (.int .i64 t840)) (fun _ hk => hk.2) (.int .i64 t841)) (fun _ hk => hk.2) (.slice Ao33 t842.length co33)) (fun _ hk => hk.2) (.slice Ao34 t845.length co34)) (fun _ h_ => h_.1))) (Kd.R_base ho0) hb); replace HO837 := Aside0.mk (Kd.R_elder' (by (with_reducible repeat (first | apply Kd.R_alloc | apply Kd.R_drewN | apply Kd.R_drew)); exact (Kd.R_mono (Kd.R_far (p := ⟨gb852, 4, none⟩) (Kd.R_far (p := ⟨gb852, 3, none⟩) (Kd.R_far (p := ⟨gb852, 2, none⟩) (Kd.R_far (p := ⟨gb852, 1, none⟩) (Kd.R_far (p := ⟨gb852, 0, none⟩) (Kd.R_types HO837.out BK852.out (by decide)) (fun _ hk => hk.2) (.int .i64 t839)) (fun _ hk => hk.2) (.int .i64 t840)) (fun _ hk => hk.2) (.int .i64 t841)) (fun _ hk => hk.2) (.slice Ao33 t842.length co33)) (fun _ hk => hk.2) (.slice Ao34 t845.length co34)) (fun _ h_ => h_.1))) (Kd.R_base ho1) hb); replace HO844 := Aside0.mk (Kd.R_elder' (by (with_reducible repeat (first | apply Kd.R_alloc | apply Kd.R_drewN | apply Kd.R_drew)); exact (Kd.R_mono (Kd.R_far (p := ⟨gb852, 4, none⟩) (Kd.R_far (p := ⟨gb852, 3, none⟩) (Kd.R_far (p := ⟨gb852, 2, none⟩) (Kd.R_far (p := ⟨gb852, 1, none⟩) (Kd.R_far (p := ⟨gb852, 0, none⟩) (Kd.R_types HO844.out BK852.out (by decide)) (fun _ hk => hk.2) (.int .i64 t839)) (fun _ hk => hk.2) (.int .i64 t840)) (fun _ hk => hk.2) (.int .i64 t841)) (fun _ hk => hk.2) (.slice Ao33 t842.length co33)) (fun _ hk => hk.2) (.slice Ao34 t845.length co34)) (fun _ h_ => h_.1))) (Kd.R_base ho0) hb); replace HO847 := Aside0.mk (Kd.R_elder' (by (with_reducible repeat (first | apply Kd.R_alloc | apply Kd.R_drewN | apply Kd.R_drew)); exact (Kd.R_mono (Kd.R_far (p := ⟨gb852, 4, none⟩) (Kd.R_far (p := ⟨gb852, 3, none⟩) (Kd.R_far (p := ⟨gb852, 2, none⟩) (Kd.R_far (p := ⟨gb852, 1, none⟩) (Kd.R_far (p := ⟨gb852, 0, none⟩) (Kd.R_types HO847.out BK852.out (by decide)) (fun _ hk => hk.2) (.int .i64 t839)) (fun _ hk => hk.2) (.int .i64 t840)) (fun _ hk => hk.2) (.int .i64 t841)) (fun _ hk => hk.2) (.slice Ao33 t842.length co33)) (fun _ hk => hk.2) (.slice Ao34 t845.length co34)) (fun _ h_ => h_.1))) (Kd.R_base ho1) hb); replace HO850 := Aside0.mk (Kd.R_elder' (by (with_reducible repeat (first | apply Kd.R_alloc | apply Kd.R_drewN | apply Kd.R_drew)); exact (Kd.R_mono (Kd.R_far (p := ⟨gb852, 4, none⟩) (Kd.R_far (p := ⟨gb852, 3, none⟩) (Kd.R_far (p := ⟨gb852, 2, none⟩) (Kd.R_far (p := ⟨gb852, 1, none⟩) (Kd.R_far (p := ⟨gb852, 0, none⟩) (Kd.R_types HO850.out BK852.out (by decide)) (fun _ hk => hk.2) (.int .i64 t839)) (fun _ hk => hk.2) (.int .i64 t840)) (fun _ hk => hk.2) (.int .i64 t841)) (fun _ hk => hk.2) (.slice Ao33 t842.length co33)) (fun _ hk => hk.2) (.slice Ao34 t845.length co34)) (fun _ h_ => h_.1))) (Kd.R_base ho2) hb); replace BK828 := Aside0.mk (blk_below (g := gb828) (o := .cells #[.int .u8 a0_0, .int .u8 a0_1] 22 (0, 0)) (by (with_reducible repeat (first | refine blk_drewN ?_ _ | refine blk_drew ?_ | refine blk_alloc ?_ _)); refine blk_far ?_ NB828_852.out _; (with_reducible repeat (first | refine blk_drewN ?_ _ | refine blk_drew ?_ | refine blk_alloc ?_ _)); refine blk_far ?_ NB828_852.out _; (with_reducible repeat (first | refine blk_drewN ?_ _ | refine blk_drew ?_ | refine blk_alloc ?_ _)); refine blk_far ?_ NB828_852.out _; (with_reducible repeat (first | refine blk_drewN ?_ _ | refine blk_drew ?_ | refine blk_alloc ?_ _)); refine blk_far ?_ NB828_852.out _; (with_reducible repeat (first | refine blk_drewN ?_ _ | refine blk_drew ?_ | refine blk_alloc ?_ _)); refine blk_far ?_ NB828_852.out _; (with_reducible repeat (first | refine blk_drewN ?_ _ | refine blk_drew ?_ | refine blk_alloc ?_ _)); exact BK828.out) hb); replace BK838 := Aside0.mk (blk_below (g := gb838) (o := .cells #[.int .i64 t829, .int .i64 t830, .int .i64 t831, .slice Ao26 t832.length co26, .slice Ao27 t835.length co27] 30 (0, 0)) (by (with_reducible repeat (first | refine blk_drewN ?_ _ | refine blk_drew ?_ | refine blk_alloc ?_ _)); refine blk_far ?_ NB838_852.out _; (with_reducible repeat (first | refine blk_drewN ?_ _ | refine blk_drew ?_ | refine blk_alloc ?_ _)); refine blk_far ?_ NB838_852.out _; (with_reducible repeat (first | refine blk_drewN ?_ _ | refine blk_drew ?_ | refine blk_alloc ?_ _)); refine blk_far ?_ NB838_852.out _; (with_reducible repeat (first | refine blk_drewN ?_ _ | refine blk_drew ?_ | refine blk_alloc ?_ _)); refine blk_far ?_ NB838_852.out _; (with_reducible repeat (first | refine blk_drewN ?_ _ | refine blk_drew ?_ | refine blk_alloc ?_ _)); refine blk_far ?_ NB838_852.out _; (with_reducible repeat (first | refine blk_drewN ?_ _ | refine blk_drew ?_ | refine blk_alloc ?_ _)); exact BK838.out) hb); replace BK852 := Aside0.mk (blk_below (g := gb852) (o := .cells #[.int .i64 t839, .int .i64 t840, .int .i64 t841, .slice Ao33 t842.length co33, .slice Ao34 t845.length co34] 30 (0, 0)) (by (with_reducible repeat (first | refine blk_drewN ?_ _ | refine blk_drew ?_ | refine blk_alloc ?_ _)); refine blk_put (cs := #[.int .i64 t839, .int .i64 t840, .int .i64 t841, .slice Ao33 t842.length co33, .slice none 0 0]) ?_ 4 _ rfl; (with_reducible repeat (first | refine blk_drewN ?_ _ | refine blk_drew ?_ | refine blk_alloc ?_ _)); refine blk_put (cs := #[.int .i64 t839, .int .i64 t840, .int .i64 t841, .slice none 0 0, .slice none 0 0]) ?_ 3 _ rfl; (with_reducible repeat (first | refine blk_drewN ?_ _ | refine blk_drew ?_ | refine blk_alloc ?_ _)); refine blk_put (cs := #[.int .i64 t839, .int .i64 t840, .int .i64 0, .slice none 0 0, .slice none 0 0]) ?_ 2 _ rfl; (with_reducible repeat (first | refine blk_drewN ?_ _ | refine blk_drew ?_ | refine blk_alloc ?_ _)); refine blk_put (cs := #[.int .i64 t839, .int .i64 0, .int .i64 0, .slice none 0 0, .slice none 0 0]) ?_ 1 _ rfl; (with_reducible repeat (first | refine blk_drewN ?_ _ | refine blk_drew ?_ | refine blk_alloc ?_ _)); refine blk_put (cs := #[.int .i64 0, .int .i64 0, .int .i64 0, .slice none 0 0, .slice none 0 0]) ?_ 0 _ rfl; (with_reducible repeat (first | refine blk_drewN ?_ _ | refine blk_drew ?_ | refine blk_alloc ?_ _)); exact BK852.out) hb); replace HB := Aside0.mk (below_step (pB HB) hb); (try clear hb); (try clear ho0); (try clear ho1); (try clear ho2)) | ((with_reducible refine gate_dst (N := 17) rfl ?_); (try (refine gate_guard (by rfl) ?_; dsimp only)); refine box_event ?hg (N := 17) ?hd (cs := #[.int .i64 0, .int .i64 0, .int .i64 0, .slice none 0 0, .slice none 0 0]) (t := 30) ?hr ?_; (case hd => rfl); (case hg => rfl); (case hr => first | (go_simp; done) | (go_simp; rfl)); intro gb866 hg w36 hbox hb; have BK866 := Aside0.mk (hbox); have GW866 := gS HB hg; have GE866 := gS HB hg; have NB828_866 := nL BK828 hg; have NB866_828 := nG BK828 hg; have NB838_866 := nL BK838 hg; have NB866_838 := nG BK838 hg; have NB852_866 := nL BK852 hg; have NB866_852 := nG BK852 hg; replace HO834 := rB HO834 hb; replace HO837 := rB HO837 hb; replace HO844 := rB HO844 hb; replace HO847 := rB HO847 hb; replace HO850 := rB HO850 hb; replace HO858 := rB HO858 hb; replace HO861 := rB HO861 hb; replace HO864 := rB HO864 hb; replace BK828 := bB BK828 hb; replace BK838 := bB BK838 hb; replace BK852 := bB BK852 hb; replace HB := Aside0.mk (below_step (pB HB) hb); clear hb hbox hg; have hnb37 := NB866_828.out; have hnc37 := NB828_866.out; have hnb38 := NB866_838.out; have hnc38 := NB838_866.out; have hnb39 := NB866_852.out; have hnc39 := NB852_866.out; obtain ⟨hcz40_0, hcz40_1, hcz40_2, hcz40_3, hcz40_4⟩ := cells5 BK866; obtain ⟨hfz40_0, hfz40_1, hfz40_2, hfz40_3, hfz40_4⟩ := frz5 BK866; obtain ⟨Ao41, co41, eo41⟩ := Kd.R_slice HO858.out; subst eo41; obtain ⟨Ao42, co42, eo42⟩ := Kd.R_slice HO861.out; subst eo42; obtain ⟨hcz43_0, hcz43_1, hcz43_2, hcz43_3, hcz43_4⟩ := cells5 BK838; obtain ⟨hfz43_0, hfz43_1, hfz43_2, hfz43_3, hfz43_4⟩ := frz5 BK838) | ((with_reducible refine gate_callee (f := 13) rfl ?_); refine goesL_ (some 55) rfl rfl Try.func13 (by kernel_rfl) rfl #[.agg #[.int .i64 t829, .int .i64 t830, .int .i64 t831, .slice Ao26 t832.length co26, .slice Ao27 t835.length co27], .int .i64 (wrap64 ((wrap64 (t829 + (wrap64 (Int.tmod a3 40)))) + (wrap64 (Int.tmod a4 40))))] rfl (by (try simp only [List.map_toArray, List.map_cons, List.map_nil]); first | done | rfl | (simp only [List.length_drop, List.length_take]; rfl)) ?_; (with_reducible refine (docket_Advance.calls k t829 t830 t831 _ _ t832 _ _ t835 (wrap64 ((wrap64 (t829 + (wrap64 (Int.tmod a3 40)))) + (wrap64 (Int.tmod a4 40)))) t867 t868 t869 t870 t873 t876 t879 _ ?side1 ?side2 ?side3 ?side4 A9.out).mono ?_); (case side1 => refine (Kd.R_reads' (e := 3) (base := w.heap.size) (ok := fun k_ => ((True ∧ some k_ ≠ (.slice Ao33 t842.length co33 : Value).ownBlock) ∧ some k_ ≠ (.slice Ao41 t856.length co41 : Value).ownBlock)) (n := t832.length) (c := co26) ?_).2.2; exact (by (with_reducible repeat (first | apply Kd.R_alloc | apply Kd.R_drewN | apply Kd.R_drew)); exact (Kd.R_mono (Kd.R_far (p := ⟨gb866, 4, none⟩) (Kd.R_far (p := ⟨gb866, 3, none⟩) (Kd.R_far (p := ⟨gb866, 2, none⟩) (Kd.R_far (p := ⟨gb866, 1, none⟩) (Kd.R_far (p := ⟨gb866, 0, none⟩) (Kd.R_types HO834.out BK866.out (by decide)) (fun _ hk => hk.2) (.int .i64 t853)) (fun _ hk => hk.2) (.int .i64 t854)) (fun _ hk => hk.2) (.int .i64 t855)) (fun _ hk => hk.2) (.slice Ao41 t856.length co41)) (fun _ hk => hk.2) (.slice Ao42 t859.length co42)) (fun _ h_ => h_.1)))); (case side2 => exact (Kd.R_reads' HO834.out).2.1); (case side3 => refine (Kd.R_reads' (e := 50) (base := w.heap.size) (ok := fun k_ => ((True ∧ some k_ ≠ (.slice Ao34 t845.length co34 : Value).ownBlock) ∧ some k_ ≠ (.slice Ao42 t859.length co42 : Value).ownBlock)) (n := t835.length) (c := co27) ?_).2.2; exact (by (with_reducible repeat (first | apply Kd.R_alloc | apply Kd.R_drewN | apply Kd.R_drew)); exact (Kd.R_mono (Kd.R_far (p := ⟨gb866, 4, none⟩) (Kd.R_far (p := ⟨gb866, 3, none⟩) (Kd.R_far (p := ⟨gb866, 2, none⟩) (Kd.R_far (p := ⟨gb866, 1, none⟩) (Kd.R_far (p := ⟨gb866, 0, none⟩) (Kd.R_types HO837.out BK866.out (by decide)) (fun _ hk => hk.2) (.int .i64 t853)) (fun _ hk => hk.2) (.int .i64 t854)) (fun _ hk => hk.2) (.int .i64 t855)) (fun _ hk => hk.2) (.slice Ao41 t856.length co41)) (fun _ hk => hk.2) (.slice Ao42 t859.length co42)) (fun _ h_ => h_.1)))); (case side4 => exact (Kd.R_reads' HO837.out).2.1); rintro e w44 ⟨v871, v874, v877, rfl, ho0, ho1, ho2, hb⟩; refine ⟨_, rfl, ?_⟩; have HO872 := Aside0.mk (Kd.R_lower (Kd.R_new' (Kd.R_new' (Kd.R_new' ho0 (Kd.R_lt (by (with_reducible repeat (first | apply Kd.R_alloc | apply Kd.R_drewN | apply Kd.R_drew)); exact (Kd.R_mono (Kd.R_far (p := ⟨gb866, 4, none⟩) (Kd.R_far (p := ⟨gb866, 3, none⟩) (Kd.R_far (p := ⟨gb866, 2, none⟩) (Kd.R_far (p := ⟨gb866, 1, none⟩) (Kd.R_far (p := ⟨gb866, 0, none⟩) (Kd.R_types HO834.out BK866.out (by decide)) (fun _ hk => hk.2) (.int .i64 t853)) (fun _ hk => hk.2) (.int .i64 t854)) (fun _ hk => hk.2) (.int .i64 t855)) (fun _ hk => hk.2) (.slice Ao41 t856.length co41)) (fun _ hk => hk.2) (.slice Ao42 t859.length co42)) (fun _ h_ => h_.1))))) (Kd.R_lt (by (with_reducible repeat (first | apply Kd.R_alloc | apply Kd.R_drewN | apply Kd.R_drew)); exact (Kd.R_mono (Kd.R_far (p := ⟨gb866, 4, none⟩) (Kd.R_far (p := ⟨gb866, 3, none⟩) (Kd.R_far (p := ⟨gb866, 2, none⟩) (Kd.R_far (p := ⟨gb866, 1, none⟩) (Kd.R_far (p := ⟨gb866, 0, none⟩) (Kd.R_types HO844.out BK866.out (by decide)) (fun _ hk => hk.2) (.int .i64 t853)) (fun _ hk => hk.2) (.int .i64 t854)) (fun _ hk => hk.2) (.int .i64 t855)) (fun _ hk => hk.2) (.slice Ao41 t856.length co41)) (fun _ hk => hk.2) (.slice Ao42 t859.length co42)) (fun _ h_ => h_.1))))) (Kd.R_lt (by (with_reducible repeat (first | apply Kd.R_alloc | apply Kd.R_drewN | apply Kd.R_drew)); exact (Kd.R_mono (Kd.R_far (p := ⟨gb866, 4, none⟩) (Kd.R_far (p := ⟨gb866, 3, none⟩) (Kd.R_far (p := ⟨gb866, 2, none⟩) (Kd.R_far (p := ⟨gb866, 1, none⟩) (Kd.R_far (p := ⟨gb866, 0, none⟩) (Kd.R_types HO858.out BK866.out (by decide)) (fun _ hk => hk.2) (.int .i64 t853)) (fun _ hk => hk.2) (.int .i64 t854)) (fun _ hk => hk.2) (.int .i64 t855)) (fun _ hk => hk.2) (.slice Ao41 t856.length co41)) (fun _ hk => hk.2) (.slice Ao42 t859.length co42)) (fun _ h_ => h_.1))))) (below_size (pB HB))); have HO875 := Aside0.mk (Kd.R_lower (Kd.R_new' (Kd.R_new' (Kd.R_new' ho1 (Kd.R_lt (by (with_reducible repeat (first | apply Kd.R_alloc | apply Kd.R_drewN | apply Kd.R_drew)); exact (Kd.R_mono (Kd.R_far (p := ⟨gb866, 4, none⟩) (Kd.R_far (p := ⟨gb866, 3, none⟩) (Kd.R_far (p := ⟨gb866, 2, none⟩) (Kd.R_far (p := ⟨gb866, 1, none⟩) (Kd.R_far (p := ⟨gb866, 0, none⟩) (Kd.R_types HO837.out BK866.out (by decide)) (fun _ hk => hk.2) (.int .i64 t853)) (fun _ hk => hk.2) (.int .i64 t854)) (fun _ hk => hk.2) (.int .i64 t855)) (fun _ hk => hk.2) (.slice Ao41 t856.length co41)) (fun _ hk => hk.2) (.slice Ao42 t859.length co42)) (fun _ h_ => h_.1))))) (Kd.R_lt (by (with_reducible repeat (first | apply Kd.R_alloc | apply Kd.R_drewN | apply Kd.R_drew)); exact (Kd.R_mono (Kd.R_far (p := ⟨gb866, 4, none⟩) (Kd.R_far (p := ⟨gb866, 3, none⟩) (Kd.R_far (p := ⟨gb866, 2, none⟩) (Kd.R_far (p := ⟨gb866, 1, none⟩) (Kd.R_far (p := ⟨gb866, 0, none⟩) (Kd.R_types HO847.out BK866.out (by decide)) (fun _ hk => hk.2) (.int .i64 t853)) (fun _ hk => hk.2) (.int .i64 t854)) (fun _ hk => hk.2) (.int .i64 t855)) (fun _ hk => hk.2) (.slice Ao41 t856.length co41)) (fun _ hk => hk.2) (.slice Ao42 t859.length co42)) (fun _ h_ => h_.1))))) (Kd.R_lt (by (with_reducible repeat (first | apply Kd.R_alloc | apply Kd.R_drewN | apply Kd.R_drew)); exact (Kd.R_mono (Kd.R_far (p := ⟨gb866, 4, none⟩) (Kd.R_far (p := ⟨gb866, 3, none⟩) (Kd.R_far (p := ⟨gb866, 2, none⟩) (Kd.R_far (p := ⟨gb866, 1, none⟩) (Kd.R_far (p := ⟨gb866, 0, none⟩) (Kd.R_types HO861.out BK866.out (by decide)) (fun _ hk => hk.2) (.int .i64 t853)) (fun _ hk => hk.2) (.int .i64 t854)) (fun _ hk => hk.2) (.int .i64 t855)) (fun _ hk => hk.2) (.slice Ao41 t856.length co41)) (fun _ hk => hk.2) (.slice Ao42 t859.length co42)) (fun _ h_ => h_.1))))) (below_size (pB HB))); have HO878 := Aside0.mk (Kd.R_lower (Kd.R_new' (Kd.R_new' ho2 (Kd.R_lt (by (with_reducible repeat (first | apply Kd.R_alloc | apply Kd.R_drewN | apply Kd.R_drew)); exact (Kd.R_mono (Kd.R_far (p := ⟨gb866, 4, none⟩) (Kd.R_far (p := ⟨gb866, 3, none⟩) (Kd.R_far (p := ⟨gb866, 2, none⟩) (Kd.R_far (p := ⟨gb866, 1, none⟩) (Kd.R_far (p := ⟨gb866, 0, none⟩) (Kd.R_types HO850.out BK866.out (by decide)) (fun _ hk => hk.2) (.int .i64 t853)) (fun _ hk => hk.2) (.int .i64 t854)) (fun _ hk => hk.2) (.int .i64 t855)) (fun _ hk => hk.2) (.slice Ao41 t856.length co41)) (fun _ hk => hk.2) (.slice Ao42 t859.length co42)) (fun _ h_ => h_.1))))) (Kd.R_lt (by (with_reducible repeat (first | apply Kd.R_alloc | apply Kd.R_drewN | apply Kd.R_drew)); exact (Kd.R_mono (Kd.R_far (p := ⟨gb866, 4, none⟩) (Kd.R_far (p := ⟨gb866, 3, none⟩) (Kd.R_far (p := ⟨gb866, 2, none⟩) (Kd.R_far (p := ⟨gb866, 1, none⟩) (Kd.R_far (p := ⟨gb866, 0, none⟩) (Kd.R_types HO864.out BK866.out (by decide)) (fun _ hk => hk.2) (.int .i64 t853)) (fun _ hk => hk.2) (.int .i64 t854)) (fun _ hk => hk.2) (.int .i64 t855)) (fun _ hk => hk.2) (.slice Ao41 t856.length co41)) (fun _ hk => hk.2) (.slice Ao42 t859.length co42)) (fun _ h_ => h_.1))))) (below_size (pB HB))); replace HO834 := Aside0.mk (Kd.R_elder' (by (with_reducible repeat (first | apply Kd.R_alloc | apply Kd.R_drewN | apply Kd.R_drew)); exact (Kd.R_mono (Kd.R_far (p := ⟨gb866, 4, none⟩) (Kd.R_far (p := ⟨gb866, 3, none⟩) (Kd.R_far (p := ⟨gb866, 2, none⟩) (Kd.R_far (p := ⟨gb866, 1, none⟩) (Kd.R_far (p := ⟨gb866, 0, none⟩) (Kd.R_types HO834.out BK866.out (by decide)) (fun _ hk => hk.2) (.int .i64 t853)) (fun _ hk => hk.2) (.int .i64 t854)) (fun _ hk => hk.2) (.int .i64 t855)) (fun _ hk => hk.2) (.slice Ao41 t856.length co41)) (fun _ hk => hk.2) (.slice Ao42 t859.length co42)) (fun _ h_ => h_.1))) (Kd.R_base ho0) hb); replace HO837 := Aside0.mk (Kd.R_elder' (by (with_reducible repeat (first | apply Kd.R_alloc | apply Kd.R_drewN | apply Kd.R_drew)); exact (Kd.R_mono (Kd.R_far (p := ⟨gb866, 4, none⟩) (Kd.R_far (p := ⟨gb866, 3, none⟩) (Kd.R_far (p := ⟨gb866, 2, none⟩) (Kd.R_far (p := ⟨gb866, 1, none⟩) (Kd.R_far (p := ⟨gb866, 0, none⟩) (Kd.R_types HO837.out BK866.out (by decide)) (fun _ hk => hk.2) (.int .i64 t853)) (fun _ hk => hk.2) (.int .i64 t854)) (fun _ hk => hk.2) (.int .i64 t855)) (fun _ hk => hk.2) (.slice Ao41 t856.length co41)) (fun _ hk => hk.2) (.slice Ao42 t859.length co42)) (fun _ h_ => h_.1))) (Kd.R_base ho1) hb); replace HO844 := Aside0.mk (Kd.R_elder' (by (with_reducible repeat (first | apply Kd.R_alloc | apply Kd.R_drewN | apply Kd.R_drew)); exact (Kd.R_mono (Kd.R_far (p := ⟨gb866, 4, none⟩) (Kd.R_far (p := ⟨gb866, 3, none⟩) (Kd.R_far (p := ⟨gb866, 2, none⟩) (Kd.R_far (p := ⟨gb866, 1, none⟩) (Kd.R_far (p := ⟨gb866, 0, none⟩) (Kd.R_types HO844.out BK866.out (by decide)) (fun _ hk => hk.2) (.int .i64 t853)) (fun _ hk => hk.2) (.int .i64 t854)) (fun _ hk => hk.2) (.int .i64 t855)) (fun _ hk => hk.2) (.slice Ao41 t856.length co41)) (fun _ hk => hk.2) (.slice Ao42 t859.length co42)) (fun _ h_ => h_.1))) (Kd.R_base ho0) hb); replace HO847 := Aside0.mk (Kd.R_elder' (by (with_reducible repeat (first | apply Kd.R_alloc | apply Kd.R_drewN | apply Kd.R_drew)); exact (Kd.R_mono (Kd.R_far (p := ⟨gb866, 4, none⟩) (Kd.R_far (p := ⟨gb866, 3, none⟩) (Kd.R_far (p := ⟨gb866, 2, none⟩) (Kd.R_far (p := ⟨gb866, 1, none⟩) (Kd.R_far (p := ⟨gb866, 0, none⟩) (Kd.R_types HO847.out BK866.out (by decide)) (fun _ hk => hk.2) (.int .i64 t853)) (fun _ hk => hk.2) (.int .i64 t854)) (fun _ hk => hk.2) (.int .i64 t855)) (fun _ hk => hk.2) (.slice Ao41 t856.length co41)) (fun _ hk => hk.2) (.slice Ao42 t859.length co42)) (fun _ h_ => h_.1))) (Kd.R_base ho1) hb); replace HO850 := Aside0.mk (Kd.R_elder' (by (with_reducible repeat (first | apply Kd.R_alloc | apply Kd.R_drewN | apply Kd.R_drew)); exact (Kd.R_mono (Kd.R_far (p := ⟨gb866, 4, none⟩) (Kd.R_far (p := ⟨gb866, 3, none⟩) (Kd.R_far (p := ⟨gb866, 2, none⟩) (Kd.R_far (p := ⟨gb866, 1, none⟩) (Kd.R_far (p := ⟨gb866, 0, none⟩) (Kd.R_types HO850.out BK866.out (by decide)) (fun _ hk => hk.2) (.int .i64 t853)) (fun _ hk => hk.2) (.int .i64 t854)) (fun _ hk => hk.2) (.int .i64 t855)) (fun _ hk => hk.2) (.slice Ao41 t856.length co41)) (fun _ hk => hk.2) (.slice Ao42 t859.length co42)) (fun _ h_ => h_.1))) (Kd.R_base ho2) hb); replace HO858 := Aside0.mk (Kd.R_elder' (by (with_reducible repeat (first | apply Kd.R_alloc | apply Kd.R_drewN | apply Kd.R_drew)); exact (Kd.R_mono (Kd.R_far (p := ⟨gb866, 4, none⟩) (Kd.R_far (p := ⟨gb866, 3, none⟩) (Kd.R_far (p := ⟨gb866, 2, none⟩) (Kd.R_far (p := ⟨gb866, 1, none⟩) (Kd.R_far (p := ⟨gb866, 0, none⟩) (Kd.R_types HO858.out BK866.out (by decide)) (fun _ hk => hk.2) (.int .i64 t853)) (fun _ hk => hk.2) (.int .i64 t854)) (fun _ hk => hk.2) (.int .i64 t855)) (fun _ hk => hk.2) (.slice Ao41 t856.length co41)) (fun _ hk => hk.2) (.slice Ao42 t859.length co42)) (fun _ h_ => h_.1))) (Kd.R_base ho0) hb); replace HO861 := Aside0.mk (Kd.R_elder' (by (with_reducible repeat (first | apply Kd.R_alloc | apply Kd.R_drewN | apply Kd.R_drew)); exact (Kd.R_mono (Kd.R_far (p := ⟨gb866, 4, none⟩) (Kd.R_far (p := ⟨gb866, 3, none⟩) (Kd.R_far (p := ⟨gb866, 2, none⟩) (Kd.R_far (p := ⟨gb866, 1, none⟩) (Kd.R_far (p := ⟨gb866, 0, none⟩) (Kd.R_types HO861.out BK866.out (by decide)) (fun _ hk => hk.2) (.int .i64 t853)) (fun _ hk => hk.2) (.int .i64 t854)) (fun _ hk => hk.2) (.int .i64 t855)) (fun _ hk => hk.2) (.slice Ao41 t856.length co41)) (fun _ hk => hk.2) (.slice Ao42 t859.length co42)) (fun _ h_ => h_.1))) (Kd.R_base ho1) hb); replace HO864 := Aside0.mk (Kd.R_elder' (by (with_reducible repeat (first | apply Kd.R_alloc | apply Kd.R_drewN | apply Kd.R_drew)); exact (Kd.R_mono (Kd.R_far (p := ⟨gb866, 4, none⟩) (Kd.R_far (p := ⟨gb866, 3, none⟩) (Kd.R_far (p := ⟨gb866, 2, none⟩) (Kd.R_far (p := ⟨gb866, 1, none⟩) (Kd.R_far (p := ⟨gb866, 0, none⟩) (Kd.R_types HO864.out BK866.out (by decide)) (fun _ hk => hk.2) (.int .i64 t853)) (fun _ hk => hk.2) (.int .i64 t854)) (fun _ hk => hk.2) (.int .i64 t855)) (fun _ hk => hk.2) (.slice Ao41 t856.length co41)) (fun _ hk => hk.2) (.slice Ao42 t859.length co42)) (fun _ h_ => h_.1))) (Kd.R_base ho2) hb); replace BK828 := Aside0.mk (blk_below (g := gb828) (o := .cells #[.int .u8 a0_0, .int .u8 a0_1] 22 (0, 0)) (by (with_reducible repeat (first | refine blk_drewN ?_ _ | refine blk_drew ?_ | refine blk_alloc ?_ _)); refine blk_far ?_ NB828_866.out _; (with_reducible repeat (first | refine blk_drewN ?_ _ | refine blk_drew ?_ | refine blk_alloc ?_ _)); refine blk_far ?_ NB828_866.out _; (with_reducible repeat (first | refine blk_drewN ?_ _ | refine blk_drew ?_ | refine blk_alloc ?_ _)); refine blk_far ?_ NB828_866.out _; (with_reducible repeat (first | refine blk_drewN ?_ _ | refine blk_drew ?_ | refine blk_alloc ?_ _)); refine blk_far ?_ NB828_866.out _; (with_reducible repeat (first | refine blk_drewN ?_ _ | refine blk_drew ?_ | refine blk_alloc ?_ _)); refine blk_far ?_ NB828_866.out _; (with_reducible repeat (first | refine blk_drewN ?_ _ | refine blk_drew ?_ | refine blk_alloc ?_ _)); exact BK828.out) hb); replace BK838 := Aside0.mk (blk_below (g := gb838) (o := .cells #[.int .i64 t829, .int .i64 t830, .int .i64 t831, .slice Ao26 t832.length co26, .slice Ao27 t835.length co27] 30 (0, 0)) (by (with_reducible repeat (first | refine blk_drewN ?_ _ | refine blk_drew ?_ | refine blk_alloc ?_ _)); refine blk_far ?_ NB838_866.out _; (with_reducible repeat (first | refine blk_drewN ?_ _ | refine blk_drew ?_ | refine blk_alloc ?_ _)); refine blk_far ?_ NB838_866.out _; (with_reducible repeat (first | refine blk_drewN ?_ _ | refine blk_drew ?_ | refine blk_alloc ?_ _)); refine blk_far ?_ NB838_866.out _; (with_reducible repeat (first | refine blk_drewN ?_ _ | refine blk_drew ?_ | refine blk_alloc ?_ _)); refine blk_far ?_ NB838_866.out _; (with_reducible repeat (first | refine blk_drewN ?_ _ | refine blk_drew ?_ | refine blk_alloc ?_ _)); refine blk_far ?_ NB838_866.out _; (with_reducible repeat (first | refine blk_drewN ?_ _ | refine blk_drew ?_ | refine blk_alloc ?_ _)); exact BK838.out) hb); replace BK852 := Aside0.mk (blk_below (g := gb852) (o := .cells #[.int .i64 t839, .int .i64 t840, .int .i64 t841, .slice Ao33 t842.length co33, .slice Ao34 t845.length co34] 30 (0, 0)) (by (with_reducible repeat (first | refine blk_drewN ?_ _ | refine blk_drew ?_ | refine blk_alloc ?_ _)); refine blk_far ?_ NB852_866.out _; (with_reducible repeat (first | refine blk_drewN ?_ _ | refine blk_drew ?_ | refine blk_alloc ?_ _)); refine blk_far ?_ NB852_866.out _; (with_reducible repeat (first | refine blk_drewN ?_ _ | refine blk_drew ?_ | refine blk_alloc ?_ _)); refine blk_far ?_ NB852_866.out _; (with_reducible repeat (first | refine blk_drewN ?_ _ | refine blk_drew ?_ | refine blk_alloc ?_ _)); refine blk_far ?_ NB852_866.out _; (with_reducible repeat (first | refine blk_drewN ?_ _ | refine blk_drew ?_ | refine blk_alloc ?_ _)); refine blk_far ?_ NB852_866.out _; (with_reducible repeat (first | refine blk_drewN ?_ _ | refine blk_drew ?_ | refine blk_alloc ?_ _)); exact BK852.out) hb); replace BK866 := Aside0.mk (blk_below (g := gb866) (o := .cells #[.int .i64 t853, .int .i64 t854, .int .i64 t855, .slice Ao41 t856.length co41, .slice Ao42 t859.length co42] 30 (0, 0)) (by (with_reducible repeat (first | refine blk_drewN ?_ _ | refine blk_drew ?_ | refine blk_alloc ?_ _)); refine blk_put (cs := #[.int .i64 t853, .int .i64 t854, .int .i64 t855, .slice Ao41 t856.length co41, .slice none 0 0]) ?_ 4 _ rfl; (with_reducible repeat (first | refine blk_drewN ?_ _ | refine blk_drew ?_ | refine blk_alloc ?_ _)); refine blk_put (cs := #[.int .i64 t853, .int .i64 t854, .int .i64 t855, .slice none 0 0, .slice none 0 0]) ?_ 3 _ rfl; (with_reducible repeat (first | refine blk_drewN ?_ _ | refine blk_drew ?_ | refine blk_alloc ?_ _)); refine blk_put (cs := #[.int .i64 t853, .int .i64 t854, .int .i64 0, .slice none 0 0, .slice none 0 0]) ?_ 2 _ rfl; (with_reducible repeat (first | refine blk_drewN ?_ _ | refine blk_drew ?_ | refine blk_alloc ?_ _)); refine blk_put (cs := #[.int .i64 t853, .int .i64 0, .int .i64 0, .slice none 0 0, .slice none 0 0]) ?_ 1 _ rfl; (with_reducible repeat (first | refine blk_drewN ?_ _ | refine blk_drew ?_ | refine blk_alloc ?_ _)); refine blk_put (cs := #[.int .i64 0, .int .i64 0, .int .i64 0, .slice none 0 0, .slice none 0 0]) ?_ 0 _ rfl; (with_reducible repeat (first | refine blk_drewN ?_ _ | refine blk_drew ?_ | refine blk_alloc ?_ _)); exact BK866.out) hb); replace HB := Aside0.mk (below_step (pB HB) hb); (try clear hb); (try clear ho0); (try clear ho1); (try clear ho2)) | ((with_reducible refine gate_dst (N := 20) rfl ?_); (try (refine gate_guard (by rfl) ?_; dsimp only)); refine box_event ?hg (N := 20) ?hd (cs := #[.int .i64 0, .int .i64 0, .int .i64 0, .slice none 0 0, .slice none 0 0]) (t := 30) ?hr ?_; (case hd => rfl); (case hg => rfl); (case hr => first | (go_simp; done) | (go_simp; rfl)); intro gb880 hg w45 hbox hb; have BK880 := Aside0.mk (hbox); have GW880 := gS HB hg; have GE880 := gS HB hg; have NB828_880 := nL BK828 hg; have NB880_828 := nG BK828 hg; have NB838_880 := nL BK838 hg; have NB880_838 := nG BK838 hg; have NB852_880 := nL BK852 hg; have NB880_852 := nG BK852 hg; have NB866_880 := nL BK866 hg; have NB880_866 := nG BK866 hg; replace HO834 := rB HO834 hb; replace HO837 := rB HO837 hb; replace HO844 := rB HO844 hb; replace HO847 := rB HO847 hb; replace HO850 := rB HO850 hb; replace HO858 := rB HO858 hb; replace HO861 := rB HO861 hb; replace HO864 := rB HO864 hb; replace HO872 := rB HO872 hb; replace HO875 := rB HO875 hb; replace HO878 := rB HO878 hb; replace BK828 := bB BK828 hb; replace BK838 := bB BK838 hb; replace BK852 := bB BK852 hb; replace BK866 := bB BK866 hb; replace HB := Aside0.mk (below_step (pB HB) hb); clear hb hbox hg; have hnb46 := NB880_828.out; have hnc46 := NB828_880.out; have hnb47 := NB880_838.out; have hnc47 := NB838_880.out; have hnb48 := NB880_852.out; have hnc48 := NB852_880.out; have hnb49 := NB880_866.out; have hnc49 := NB866_880.out; obtain ⟨hcz50_0, hcz50_1, hcz50_2, hcz50_3, hcz50_4⟩ := cells5 BK880; obtain ⟨hfz50_0, hfz50_1, hfz50_2, hfz50_3, hfz50_4⟩ := frz5 BK880; obtain ⟨Ao51, co51, eo51⟩ := Kd.R_slice HO872.out; subst eo51; obtain ⟨Ao52, co52, eo52⟩ := Kd.R_slice HO875.out; subst eo52) | ((with_reducible refine gate_callee (f := 14) rfl ?_); refine goesL_ (some 59) rfl rfl Try.func14 (by kernel_rfl) rfl #[] rfl (by (try simp only [List.map_toArray, List.map_cons, List.map_nil]); first | done | rfl | (simp only [List.length_drop, List.length_take]; rfl)) ?_; (with_reducible refine (insolvencylaw33_awake.calls k  true _ A10.out).mono ?_); rintro e w53 ⟨rfl, hb⟩; refine ⟨_, rfl, ?_⟩; replace HO834 := Aside0.mk (Kd.R_below (by (with_reducible repeat (first | apply Kd.R_alloc | apply Kd.R_drewN | apply Kd.R_drew)); exact (Kd.R_mono (Kd.R_far (p := ⟨gb880, 4, none⟩) (Kd.R_far (p := ⟨gb880, 3, none⟩) (Kd.R_far (p := ⟨gb880, 2, none⟩) (Kd.R_far (p := ⟨gb880, 1, none⟩) (Kd.R_far (p := ⟨gb880, 0, none⟩) (Kd.R_types HO834.out BK880.out (by decide)) (fun _ hk => hk.2) (.int .i64 t867)) (fun _ hk => hk.2) (.int .i64 t868)) (fun _ hk => hk.2) (.int .i64 t869)) (fun _ hk => hk.2) (.slice Ao51 t870.length co51)) (fun _ hk => hk.2) (.slice Ao52 t873.length co52)) (fun _ h_ => h_.1))) hb); replace HO837 := Aside0.mk (Kd.R_below (by (with_reducible repeat (first | apply Kd.R_alloc | apply Kd.R_drewN | apply Kd.R_drew)); exact (Kd.R_mono (Kd.R_far (p := ⟨gb880, 4, none⟩) (Kd.R_far (p := ⟨gb880, 3, none⟩) (Kd.R_far (p := ⟨gb880, 2, none⟩) (Kd.R_far (p := ⟨gb880, 1, none⟩) (Kd.R_far (p := ⟨gb880, 0, none⟩) (Kd.R_types HO837.out BK880.out (by decide)) (fun _ hk => hk.2) (.int .i64 t867)) (fun _ hk => hk.2) (.int .i64 t868)) (fun _ hk => hk.2) (.int .i64 t869)) (fun _ hk => hk.2) (.slice Ao51 t870.length co51)) (fun _ hk => hk.2) (.slice Ao52 t873.length co52)) (fun _ h_ => h_.1))) hb); replace HO844 := Aside0.mk (Kd.R_below (by (with_reducible repeat (first | apply Kd.R_alloc | apply Kd.R_drewN | apply Kd.R_drew)); exact (Kd.R_mono (Kd.R_far (p := ⟨gb880, 4, none⟩) (Kd.R_far (p := ⟨gb880, 3, none⟩) (Kd.R_far (p := ⟨gb880, 2, none⟩) (Kd.R_far (p := ⟨gb880, 1, none⟩) (Kd.R_far (p := ⟨gb880, 0, none⟩) (Kd.R_types HO844.out BK880.out (by decide)) (fun _ hk => hk.2) (.int .i64 t867)) (fun _ hk => hk.2) (.int .i64 t868)) (fun _ hk => hk.2) (.int .i64 t869)) (fun _ hk => hk.2) (.slice Ao51 t870.length co51)) (fun _ hk => hk.2) (.slice Ao52 t873.length co52)) (fun _ h_ => h_.1))) hb); replace HO847 := Aside0.mk (Kd.R_below (by (with_reducible repeat (first | apply Kd.R_alloc | apply Kd.R_drewN | apply Kd.R_drew)); exact (Kd.R_mono (Kd.R_far (p := ⟨gb880, 4, none⟩) (Kd.R_far (p := ⟨gb880, 3, none⟩) (Kd.R_far (p := ⟨gb880, 2, none⟩) (Kd.R_far (p := ⟨gb880, 1, none⟩) (Kd.R_far (p := ⟨gb880, 0, none⟩) (Kd.R_types HO847.out BK880.out (by decide)) (fun _ hk => hk.2) (.int .i64 t867)) (fun _ hk => hk.2) (.int .i64 t868)) (fun _ hk => hk.2) (.int .i64 t869)) (fun _ hk => hk.2) (.slice Ao51 t870.length co51)) (fun _ hk => hk.2) (.slice Ao52 t873.length co52)) (fun _ h_ => h_.1))) hb); replace HO850 := Aside0.mk (Kd.R_below (by (with_reducible repeat (first | apply Kd.R_alloc | apply Kd.R_drewN | apply Kd.R_drew)); exact (Kd.R_mono (Kd.R_far (p := ⟨gb880, 4, none⟩) (Kd.R_far (p := ⟨gb880, 3, none⟩) (Kd.R_far (p := ⟨gb880, 2, none⟩) (Kd.R_far (p := ⟨gb880, 1, none⟩) (Kd.R_far (p := ⟨gb880, 0, none⟩) (Kd.R_types HO850.out BK880.out (by decide)) (fun _ hk => hk.2) (.int .i64 t867)) (fun _ hk => hk.2) (.int .i64 t868)) (fun _ hk => hk.2) (.int .i64 t869)) (fun _ hk => hk.2) (.slice Ao51 t870.length co51)) (fun _ hk => hk.2) (.slice Ao52 t873.length co52)) (fun _ h_ => h_.1))) hb); replace HO858 := Aside0.mk (Kd.R_below (by (with_reducible repeat (first | apply Kd.R_alloc | apply Kd.R_drewN | apply Kd.R_drew)); exact (Kd.R_mono (Kd.R_far (p := ⟨gb880, 4, none⟩) (Kd.R_far (p := ⟨gb880, 3, none⟩) (Kd.R_far (p := ⟨gb880, 2, none⟩) (Kd.R_far (p := ⟨gb880, 1, none⟩) (Kd.R_far (p := ⟨gb880, 0, none⟩) (Kd.R_types HO858.out BK880.out (by decide)) (fun _ hk => hk.2) (.int .i64 t867)) (fun _ hk => hk.2) (.int .i64 t868)) (fun _ hk => hk.2) (.int .i64 t869)) (fun _ hk => hk.2) (.slice Ao51 t870.length co51)) (fun _ hk => hk.2) (.slice Ao52 t873.length co52)) (fun _ h_ => h_.1))) hb); replace HO861 := Aside0.mk (Kd.R_below (by (with_reducible repeat (first | apply Kd.R_alloc | apply Kd.R_drewN | apply Kd.R_drew)); exact (Kd.R_mono (Kd.R_far (p := ⟨gb880, 4, none⟩) (Kd.R_far (p := ⟨gb880, 3, none⟩) (Kd.R_far (p := ⟨gb880, 2, none⟩) (Kd.R_far (p := ⟨gb880, 1, none⟩) (Kd.R_far (p := ⟨gb880, 0, none⟩) (Kd.R_types HO861.out BK880.out (by decide)) (fun _ hk => hk.2) (.int .i64 t867)) (fun _ hk => hk.2) (.int .i64 t868)) (fun _ hk => hk.2) (.int .i64 t869)) (fun _ hk => hk.2) (.slice Ao51 t870.length co51)) (fun _ hk => hk.2) (.slice Ao52 t873.length co52)) (fun _ h_ => h_.1))) hb); replace HO864 := Aside0.mk (Kd.R_below (by (with_reducible repeat (first | apply Kd.R_alloc | apply Kd.R_drewN | apply Kd.R_drew)); exact (Kd.R_mono (Kd.R_far (p := ⟨gb880, 4, none⟩) (Kd.R_far (p := ⟨gb880, 3, none⟩) (Kd.R_far (p := ⟨gb880, 2, none⟩) (Kd.R_far (p := ⟨gb880, 1, none⟩) (Kd.R_far (p := ⟨gb880, 0, none⟩) (Kd.R_types HO864.out BK880.out (by decide)) (fun _ hk => hk.2) (.int .i64 t867)) (fun _ hk => hk.2) (.int .i64 t868)) (fun _ hk => hk.2) (.int .i64 t869)) (fun _ hk => hk.2) (.slice Ao51 t870.length co51)) (fun _ hk => hk.2) (.slice Ao52 t873.length co52)) (fun _ h_ => h_.1))) hb); replace HO872 := Aside0.mk (Kd.R_below (by (with_reducible repeat (first | apply Kd.R_alloc | apply Kd.R_drewN | apply Kd.R_drew)); exact (Kd.R_mono (Kd.R_far (p := ⟨gb880, 4, none⟩) (Kd.R_far (p := ⟨gb880, 3, none⟩) (Kd.R_far (p := ⟨gb880, 2, none⟩) (Kd.R_far (p := ⟨gb880, 1, none⟩) (Kd.R_far (p := ⟨gb880, 0, none⟩) (Kd.R_types HO872.out BK880.out (by decide)) (fun _ hk => hk.2) (.int .i64 t867)) (fun _ hk => hk.2) (.int .i64 t868)) (fun _ hk => hk.2) (.int .i64 t869)) (fun _ hk => hk.2) (.slice Ao51 t870.length co51)) (fun _ hk => hk.2) (.slice Ao52 t873.length co52)) (fun _ h_ => h_.1))) hb); replace HO875 := Aside0.mk (Kd.R_below (by (with_reducible repeat (first | apply Kd.R_alloc | apply Kd.R_drewN | apply Kd.R_drew)); exact (Kd.R_mono (Kd.R_far (p := ⟨gb880, 4, none⟩) (Kd.R_far (p := ⟨gb880, 3, none⟩) (Kd.R_far (p := ⟨gb880, 2, none⟩) (Kd.R_far (p := ⟨gb880, 1, none⟩) (Kd.R_far (p := ⟨gb880, 0, none⟩) (Kd.R_types HO875.out BK880.out (by decide)) (fun _ hk => hk.2) (.int .i64 t867)) (fun _ hk => hk.2) (.int .i64 t868)) (fun _ hk => hk.2) (.int .i64 t869)) (fun _ hk => hk.2) (.slice Ao51 t870.length co51)) (fun _ hk => hk.2) (.slice Ao52 t873.length co52)) (fun _ h_ => h_.1))) hb); replace HO878 := Aside0.mk (Kd.R_below (by (with_reducible repeat (first | apply Kd.R_alloc | apply Kd.R_drewN | apply Kd.R_drew)); exact (Kd.R_mono (Kd.R_far (p := ⟨gb880, 4, none⟩) (Kd.R_far (p := ⟨gb880, 3, none⟩) (Kd.R_far (p := ⟨gb880, 2, none⟩) (Kd.R_far (p := ⟨gb880, 1, none⟩) (Kd.R_far (p := ⟨gb880, 0, none⟩) (Kd.R_types HO878.out BK880.out (by decide)) (fun _ hk => hk.2) (.int .i64 t867)) (fun _ hk => hk.2) (.int .i64 t868)) (fun _ hk => hk.2) (.int .i64 t869)) (fun _ hk => hk.2) (.slice Ao51 t870.length co51)) (fun _ hk => hk.2) (.slice Ao52 t873.length co52)) (fun _ h_ => h_.1))) hb); replace BK828 := Aside0.mk (blk_below (g := gb828) (o := .cells #[.int .u8 a0_0, .int .u8 a0_1] 22 (0, 0)) (by (with_reducible repeat (first | refine blk_drewN ?_ _ | refine blk_drew ?_ | refine blk_alloc ?_ _)); refine blk_far ?_ NB828_880.out _; (with_reducible repeat (first | refine blk_drewN ?_ _ | refine blk_drew ?_ | refine blk_alloc ?_ _)); refine blk_far ?_ NB828_880.out _; (with_reducible repeat (first | refine blk_drewN ?_ _ | refine blk_drew ?_ | refine blk_alloc ?_ _)); refine blk_far ?_ NB828_880.out _; (with_reducible repeat (first | refine blk_drewN ?_ _ | refine blk_drew ?_ | refine blk_alloc ?_ _)); refine blk_far ?_ NB828_880.out _; (with_reducible repeat (first | refine blk_drewN ?_ _ | refine blk_drew ?_ | refine blk_alloc ?_ _)); refine blk_far ?_ NB828_880.out _; (with_reducible repeat (first | refine blk_drewN ?_ _ | refine blk_drew ?_ | refine blk_alloc ?_ _)); exact BK828.out) hb); replace BK838 := Aside0.mk (blk_below (g := gb838) (o := .cells #[.int .i64 t829, .int .i64 t830, .int .i64 t831, .slice Ao26 t832.length co26, .slice Ao27 t835.length co27] 30 (0, 0)) (by (with_reducible repeat (first | refine blk_drewN ?_ _ | refine blk_drew ?_ | refine blk_alloc ?_ _)); refine blk_far ?_ NB838_880.out _; (with_reducible repeat (first | refine blk_drewN ?_ _ | refine blk_drew ?_ | refine blk_alloc ?_ _)); refine blk_far ?_ NB838_880.out _; (with_reducible repeat (first | refine blk_drewN ?_ _ | refine blk_drew ?_ | refine blk_alloc ?_ _)); refine blk_far ?_ NB838_880.out _; (with_reducible repeat (first | refine blk_drewN ?_ _ | refine blk_drew ?_ | refine blk_alloc ?_ _)); refine blk_far ?_ NB838_880.out _; (with_reducible repeat (first | refine blk_drewN ?_ _ | refine blk_drew ?_ | refine blk_alloc ?_ _)); refine blk_far ?_ NB838_880.out _; (with_reducible repeat (first | refine blk_drewN ?_ _ | refine blk_drew ?_ | refine blk_alloc ?_ _)); exact BK838.out) hb); replace BK852 := Aside0.mk (blk_below (g := gb852) (o := .cells #[.int .i64 t839, .int .i64 t840, .int .i64 t841, .slice Ao33 t842.length co33, .slice Ao34 t845.length co34] 30 (0, 0)) (by (with_reducible repeat (first | refine blk_drewN ?_ _ | refine blk_drew ?_ | refine blk_alloc ?_ _)); refine blk_far ?_ NB852_880.out _; (with_reducible repeat (first | refine blk_drewN ?_ _ | refine blk_drew ?_ | refine blk_alloc ?_ _)); refine blk_far ?_ NB852_880.out _; (with_reducible repeat (first | refine blk_drewN ?_ _ | refine blk_drew ?_ | refine blk_alloc ?_ _)); refine blk_far ?_ NB852_880.out _; (with_reducible repeat (first | refine blk_drewN ?_ _ | refine blk_drew ?_ | refine blk_alloc ?_ _)); refine blk_far ?_ NB852_880.out _; (with_reducible repeat (first | refine blk_drewN ?_ _ | refine blk_drew ?_ | refine blk_alloc ?_ _)); refine blk_far ?_ NB852_880.out _; (with_reducible repeat (first | refine blk_drewN ?_ _ | refine blk_drew ?_ | refine blk_alloc ?_ _)); exact BK852.out) hb); replace BK866 := Aside0.mk (blk_below (g := gb866) (o := .cells #[.int .i64 t853, .int .i64 t854, .int .i64 t855, .slice Ao41 t856.length co41, .slice Ao42 t859.length co42] 30 (0, 0)) (by (with_reducible repeat (first | refine blk_drewN ?_ _ | refine blk_drew ?_ | refine blk_alloc ?_ _)); refine blk_far ?_ NB866_880.out _; (with_reducible repeat (first | refine blk_drewN ?_ _ | refine blk_drew ?_ | refine blk_alloc ?_ _)); refine blk_far ?_ NB866_880.out _; (with_reducible repeat (first | refine blk_drewN ?_ _ | refine blk_drew ?_ | refine blk_alloc ?_ _)); refine blk_far ?_ NB866_880.out _; (with_reducible repeat (first | refine blk_drewN ?_ _ | refine blk_drew ?_ | refine blk_alloc ?_ _)); refine blk_far ?_ NB866_880.out _; (with_reducible repeat (first | refine blk_drewN ?_ _ | refine blk_drew ?_ | refine blk_alloc ?_ _)); refine blk_far ?_ NB866_880.out _; (with_reducible repeat (first | refine blk_drewN ?_ _ | refine blk_drew ?_ | refine blk_alloc ?_ _)); exact BK866.out) hb); replace BK880 := Aside0.mk (blk_below (g := gb880) (o := .cells #[.int .i64 t867, .int .i64 t868, .int .i64 t869, .slice Ao51 t870.length co51, .slice Ao52 t873.length co52] 30 (0, 0)) (by (with_reducible repeat (first | refine blk_drewN ?_ _ | refine blk_drew ?_ | refine blk_alloc ?_ _)); refine blk_put (cs := #[.int .i64 t867, .int .i64 t868, .int .i64 t869, .slice Ao51 t870.length co51, .slice none 0 0]) ?_ 4 _ rfl; (with_reducible repeat (first | refine blk_drewN ?_ _ | refine blk_drew ?_ | refine blk_alloc ?_ _)); refine blk_put (cs := #[.int .i64 t867, .int .i64 t868, .int .i64 t869, .slice none 0 0, .slice none 0 0]) ?_ 3 _ rfl; (with_reducible repeat (first | refine blk_drewN ?_ _ | refine blk_drew ?_ | refine blk_alloc ?_ _)); refine blk_put (cs := #[.int .i64 t867, .int .i64 t868, .int .i64 0, .slice none 0 0, .slice none 0 0]) ?_ 2 _ rfl; (with_reducible repeat (first | refine blk_drewN ?_ _ | refine blk_drew ?_ | refine blk_alloc ?_ _)); refine blk_put (cs := #[.int .i64 t867, .int .i64 0, .int .i64 0, .slice none 0 0, .slice none 0 0]) ?_ 1 _ rfl; (with_reducible repeat (first | refine blk_drewN ?_ _ | refine blk_drew ?_ | refine blk_alloc ?_ _)); refine blk_put (cs := #[.int .i64 0, .int .i64 0, .int .i64 0, .slice none 0 0, .slice none 0 0]) ?_ 0 _ rfl; (with_reducible repeat (first | refine blk_drewN ?_ _ | refine blk_drew ?_ | refine blk_alloc ?_ _)); exact BK880.out) hb); replace HB := Aside0.mk (below_step (pB HB) hb); (try clear hb); obtain ⟨hcz54_0, hcz54_1, hcz54_2, hcz54_3, hcz54_4⟩ := cells5 BK866; obtain ⟨hfz54_0, hfz54_1, hfz54_2, hfz54_3, hfz54_4⟩ := frz5 BK866; obtain ⟨hcz55_0, hcz55_1, hcz55_2, hcz55_3, hcz55_4⟩ := cells5 BK880; obtain ⟨hfz55_0, hfz55_1, hfz55_2, hfz55_3, hfz55_4⟩ := frz5 BK880) | (go_at_call 15; (with_reducible refine (insolvencyref33_SameDocket.calls k t853 t854 t855 _ _ t856 _ _ t859 t867 t868 t869 _ _ t870 _ _ t873 true _ ?side1 ?side2 ?side3 ?side4 ?side5 ?side6 ?side7 ?side8 A15.out).mono ?_); (case side1 => repeat (first | exact (Kd.R_reads' HO858.out).2.2 | (with_reducible refine Kd.C_alloc ?_ _) | (with_reducible refine Kd.C_drewN ?_ _) | (with_reducible refine Kd.C_drew ?_))); (case side2 => exact (Kd.R_reads' HO858.out).2.1); (case side3 => repeat (first | exact (Kd.R_reads' HO861.out).2.2 | (with_reducible refine Kd.C_alloc ?_ _) | (with_reducible refine Kd.C_drewN ?_ _) | (with_reducible refine Kd.C_drew ?_))); (case side4 => exact (Kd.R_reads' HO861.out).2.1); (case side5 => repeat (first | exact (Kd.R_reads' HO872.out).2.2 | (with_reducible refine Kd.C_alloc ?_ _) | (with_reducible refine Kd.C_drewN ?_ _) | (with_reducible refine Kd.C_drew ?_))); (case side6 => exact (Kd.R_reads' HO872.out).2.1); (case side7 => repeat (first | exact (Kd.R_reads' HO875.out).2.2 | (with_reducible refine Kd.C_alloc ?_ _) | (with_reducible refine Kd.C_drewN ?_ _) | (with_reducible refine Kd.C_drew ?_))); (case side8 => exact (Kd.R_reads' HO875.out).2.1); rintro e w56 ⟨rfl, hb⟩; replace HO834 := rB HO834 hb; replace HO837 := rB HO837 hb; replace HO844 := rB HO844 hb; replace HO847 := rB HO847 hb; replace HO850 := rB HO850 hb; replace HO858 := rB HO858 hb; replace HO861 := rB HO861 hb; replace HO864 := rB HO864 hb; replace HO872 := rB HO872 hb; replace HO875 := rB HO875 hb; replace HO878 := rB HO878 hb; replace BK828 := bB BK828 hb; replace BK838 := bB BK838 hb; replace BK852 := bB BK852 hb; replace BK866 := bB BK866 hb; replace BK880 := bB BK880 hb; replace HB := Aside0.mk (below_step (pB HB) hb); (try clear hb)) | ((with_reducible refine gate_dst (N := 78) rfl ?_); (try (refine gate_guard (by rfl) ?_; dsimp only)); refine Kd.R_lit k52 _ 52 ?hg (N := 78) ?hd (xs := ([] : List (S52))) (inner := []) (ok := fun _ => True) (okp := fun _ => True) ?hr ?hp (fun _ hk => hk) trivial (Below.refl _ _) (Nat.le_refl _) (by simp) ?_; (case hd => rfl); (case hg => rfl); (case hr => first | (go_simp; done) | (go_simp; rfl)); (case hp => exact (Reps.none _ _)); intro v884 w57 ho58 hb hg_ hnew_; clear hg_ hnew_; (first | rw [← Ny883.out] at ho58 | (simp only [Int.reduceToNat] at ho58; rw [← Ny883.out] at ho58)); have HO885 := Aside0.mk (Kd.R_lower (Kd.R_new' (Kd.R_new' (Kd.R_new' ho58 (Kd.R_lt (by (with_reducible repeat (first | apply Kd.R_alloc | apply Kd.R_drewN | apply Kd.R_drew)); exact HO850.out))) (Kd.R_lt (by (with_reducible repeat (first | apply Kd.R_alloc | apply Kd.R_drewN | apply Kd.R_drew)); exact HO864.out))) (Kd.R_lt (by (with_reducible repeat (first | apply Kd.R_alloc | apply Kd.R_drewN | apply Kd.R_drew)); exact HO878.out))) (below_size (pB HB))); replace HO834 := rB HO834 hb; replace HO837 := rB HO837 hb; replace HO844 := rB HO844 hb; replace HO847 := rB HO847 hb; replace HO850 := Aside0.mk (Kd.R_elder' (by (with_reducible repeat (first | apply Kd.R_alloc | apply Kd.R_drewN | apply Kd.R_drew)); exact HO850.out) (Kd.R_base ho58) hb); replace HO858 := rB HO858 hb; replace HO861 := rB HO861 hb; replace HO864 := Aside0.mk (Kd.R_elder' (by (with_reducible repeat (first | apply Kd.R_alloc | apply Kd.R_drewN | apply Kd.R_drew)); exact HO864.out) (Kd.R_base ho58) hb); replace HO872 := rB HO872 hb; replace HO875 := rB HO875 hb; replace HO878 := Aside0.mk (Kd.R_elder' (by (with_reducible repeat (first | apply Kd.R_alloc | apply Kd.R_drewN | apply Kd.R_drew)); exact HO878.out) (Kd.R_base ho58) hb); replace BK828 := bB BK828 hb; replace BK838 := bB BK838 hb; replace BK852 := bB BK852 hb; replace BK866 := bB BK866 hb; replace BK880 := bB BK880 hb; replace HB := Aside0.mk (below_step (pB HB) hb); clear hb ho58; obtain ⟨Ao60, co60, eo60⟩ := Kd.R_slice HO850.out; subst eo60) | ((with_reducible refine gate_builtin (b := .append) (xs := #[.tmp 78, .tmp 79]) rfl ?_); (try (refine gate_guard (by rfl) ?_; dsimp only)); at_builtin; refine Kd.R_append_rows k52 (w0 := w) w.heap.size rfl (.tmp 78) (.tmp 79) 32 52 (.agg #[(.int .i64 0), (.int .i64 0), (.int .i64 0)]) 24 rfl Try.underlying32 info52 rfl (by decide) (by omega) v884 y883 t848 _ _ _ (fun k_ => some k_ ≠ (.slice Ao60 t848.length co60 : Value).ownBlock ∧ some k_ ≠ (v863 : Value).ownBlock ∧ some k_ ≠ (v877 : Value).ownBlock) (fun _ => False) rfl rfl ?aO ?aR (fun _ _ h => h) (fun _ h => h.elim) ?aF ?aB ?aS ?aL ?_; (case aR => repeat (first | exact (Kd.R_reads' HO850.out).2.2 | (with_reducible refine Kd.C_alloc ?_ _) | (with_reducible refine Kd.C_drewN ?_ _) | (with_reducible refine Kd.C_drew ?_))); (case aB => exact (pB HB)); (case aF => exact (fun k_ hk => ⟨Kd.fresh' (Kd.R_lt (by (with_reducible repeat (first | apply Kd.R_alloc | apply Kd.R_drewN | apply Kd.R_drew)); exact HO850.out)) k_ hk, Kd.fresh' (Kd.R_lt (by (with_reducible repeat (first | apply Kd.R_alloc | apply Kd.R_drewN | apply Kd.R_drew)); exact HO864.out)) k_ hk, Kd.fresh' (Kd.R_lt (by (with_reducible repeat (first | apply Kd.R_alloc | apply Kd.R_drewN | apply Kd.R_drew)); exact HO878.out)) k_ hk⟩)); (case aO => exact (by (with_reducible repeat (first | apply Kd.R_alloc | apply Kd.R_drewN | apply Kd.R_drew)); exact Kd.R_mono HO885.out (fun _ hk => ⟨hk.1.1.2, ⟨hk.1.2, hk.2⟩⟩))); (case aS => exact (below_size (pB HB))); (case aL => have := LMc17.out; omega); intro v887 w59 ho hb hg hat; rw [← Ny886.out] at ho; have n0_ := Aside0.mk (blk_grown (g := gb828) (o := .cells #[.int .u8 a0_0, .int .u8 a0_1] 22 (0, 0)) (by (with_reducible repeat (first | refine blk_drewN ?_ _ | refine blk_drew ?_ | refine blk_alloc ?_ _)); exact BK828.out) hg (Kd.R_ne HO885.out BK828.out (by decide))); have n1_ := Aside0.mk (Kd.R_over' (by (with_reducible repeat (first | apply Kd.R_alloc | apply Kd.R_drewN | apply Kd.R_drew)); exact HO834.out) (Kd.R_typed (by (with_reducible repeat (first | apply Kd.R_alloc | apply Kd.R_drewN | apply Kd.R_drew)); exact HO885.out)) (by decide) hg); have n2_ := Aside0.mk (Kd.R_over' (by (with_reducible repeat (first | apply Kd.R_alloc | apply Kd.R_drewN | apply Kd.R_drew)); exact HO837.out) (Kd.R_typed (by (with_reducible repeat (first | apply Kd.R_alloc | apply Kd.R_drewN | apply Kd.R_drew)); exact HO885.out)) (by decide) hg); have n3_ := Aside0.mk (blk_grown (g := gb838) (o := .cells #[.int .i64 t829, .int .i64 t830, .int .i64 t831, .slice Ao26 t832.length co26, .slice Ao27 t835.length co27] 30 (0, 0)) (by (with_reducible repeat (first | refine blk_drewN ?_ _ | refine blk_drew ?_ | refine blk_alloc ?_ _)); exact BK838.out) hg (Kd.R_ne HO885.out BK838.out (by decide))); have n4_ := Aside0.mk (Kd.R_over' (by (with_reducible repeat (first | apply Kd.R_alloc | apply Kd.R_drewN | apply Kd.R_drew)); exact HO844.out) (Kd.R_typed (by (with_reducible repeat (first | apply Kd.R_alloc | apply Kd.R_drewN | apply Kd.R_drew)); exact HO885.out)) (by decide) hg); have n5_ := Aside0.mk (Kd.R_over' (by (with_reducible repeat (first | apply Kd.R_alloc | apply Kd.R_drewN | apply Kd.R_drew)); exact HO847.out) (Kd.R_typed (by (with_reducible repeat (first | apply Kd.R_alloc | apply Kd.R_drewN | apply Kd.R_drew)); exact HO885.out)) (by decide) hg); have n6_ := Aside0.mk (Kd.R_after (ok := (fun k_ => some k_ ≠ (v863 : Value).ownBlock ∧ some k_ ≠ (v877 : Value).ownBlock)) (by (with_reducible repeat (first | apply Kd.R_alloc | apply Kd.R_drewN | apply Kd.R_drew)); exact Kd.R_mono HO850.out (fun _ hk => ⟨⟨hk.1.1.2, hk.1.2⟩, hk.2⟩)) hg hat); have n7_ := Aside0.mk (blk_grown (g := gb852) (o := .cells #[.int .i64 t839, .int .i64 t840, .int .i64 t841, .slice Ao33 t842.length co33, .slice Ao34 t845.length co34] 30 (0, 0)) (by (with_reducible repeat (first | refine blk_drewN ?_ _ | refine blk_drew ?_ | refine blk_alloc ?_ _)); exact BK852.out) hg (Kd.R_ne HO885.out BK852.out (by decide))); have n8_ := Aside0.mk (Kd.R_over' (by (with_reducible repeat (first | apply Kd.R_alloc | apply Kd.R_drewN | apply Kd.R_drew)); exact HO858.out) (Kd.R_typed (by (with_reducible repeat (first | apply Kd.R_alloc | apply Kd.R_drewN | apply Kd.R_drew)); exact HO885.out)) (by decide) hg); have n9_ := Aside0.mk (Kd.R_over' (by (with_reducible repeat (first | apply Kd.R_alloc | apply Kd.R_drewN | apply Kd.R_drew)); exact HO861.out) (Kd.R_typed (by (with_reducible repeat (first | apply Kd.R_alloc | apply Kd.R_drewN | apply Kd.R_drew)); exact HO885.out)) (by decide) hg); have n10_ := Aside0.mk (Kd.R_after (ok := (fun k_ => some k_ ≠ (.slice Ao60 t848.length co60 : Value).ownBlock ∧ some k_ ≠ (v877 : Value).ownBlock)) (by (with_reducible repeat (first | apply Kd.R_alloc | apply Kd.R_drewN | apply Kd.R_drew)); exact Kd.R_mono HO864.out (fun _ hk => ⟨⟨hk.1.1.2, hk.1.2⟩, hk.2⟩)) hg hat); have n11_ := Aside0.mk (blk_grown (g := gb866) (o := .cells #[.int .i64 t853, .int .i64 t854, .int .i64 t855, .slice Ao41 t856.length co41, .slice Ao42 t859.length co42] 30 (0, 0)) (by (with_reducible repeat (first | refine blk_drewN ?_ _ | refine blk_drew ?_ | refine blk_alloc ?_ _)); exact BK866.out) hg (Kd.R_ne HO885.out BK866.out (by decide))); have n12_ := Aside0.mk (Kd.R_over' (by (with_reducible repeat (first | apply Kd.R_alloc | apply Kd.R_drewN | apply Kd.R_drew)); exact HO872.out) (Kd.R_typed (by (with_reducible repeat (first | apply Kd.R_alloc | apply Kd.R_drewN | apply Kd.R_drew)); exact HO885.out)) (by decide) hg); have n13_ := Aside0.mk (Kd.R_over' (by (with_reducible repeat (first | apply Kd.R_alloc | apply Kd.R_drewN | apply Kd.R_drew)); exact HO875.out) (Kd.R_typed (by (with_reducible repeat (first | apply Kd.R_alloc | apply Kd.R_drewN | apply Kd.R_drew)); exact HO885.out)) (by decide) hg); have n14_ := Aside0.mk (Kd.R_after (ok := (fun k_ => some k_ ≠ (.slice Ao60 t848.length co60 : Value).ownBlock ∧ some k_ ≠ (v863 : Value).ownBlock)) (by (with_reducible repeat (first | apply Kd.R_alloc | apply Kd.R_drewN | apply Kd.R_drew)); exact Kd.R_mono HO878.out (fun _ hk => ⟨⟨hk.1.1.2, hk.1.2⟩, hk.2⟩)) hg hat); have n15_ := Aside0.mk (blk_grown (g := gb880) (o := .cells #[.int .i64 t867, .int .i64 t868, .int .i64 t869, .slice Ao51 t870.length co51, .slice Ao52 t873.length co52] 30 (0, 0)) (by (with_reducible repeat (first | refine blk_drewN ?_ _ | refine blk_drew ?_ | refine blk_alloc ?_ _)); exact BK880.out) hg (Kd.R_ne HO885.out BK880.out (by decide))); have n16_ := Aside0.mk (hb); have n17_ := Aside0.mk (ho); clear BK828; clear HO834; clear HO837; clear BK838; clear HO844; clear HO847; clear HO850; clear BK852; clear HO858; clear HO861; clear HO864; clear BK866; clear HO872; clear HO875; clear HO878; clear BK880; clear HB; clear HO885; have BK828 := n0_; have HO834 := n1_; have HO837 := n2_; have BK838 := n3_; have HO844 := n4_; have HO847 := n5_; have HO850 := n6_; have BK852 := n7_; have HO858 := n8_; have HO861 := n9_; have HO864 := n10_; have BK866 := n11_; have HO872 := n12_; have HO875 := n13_; have HO878 := n14_; have BK880 := n15_; have HB := n16_; have HO888 := n17_; clear n0_ n1_ n2_ n3_ n4_ n5_ n6_ n7_ n8_ n9_ n10_ n11_ n12_ n13_ n14_ n15_ n16_ n17_; clear ho hb hg hat; obtain ⟨Ao62, co62, eo62⟩ := Kd.R_slice HO864.out; subst eo62) | ((with_reducible refine gate_builtin (b := .append) (xs := #[.tmp 80, .tmp 81]) rfl ?_); (try (refine gate_guard (by rfl) ?_; dsimp only)); at_builtin; refine Kd.R_append_rows k52 (w0 := w) w.heap.size rfl (.tmp 80) (.tmp 81) 32 52 (.agg #[(.int .i64 0), (.int .i64 0), (.int .i64 0)]) 24 rfl Try.underlying32 info52 rfl (by decide) (by omega) v887 y886 t862 _ _ _ (fun k_ => some k_ ≠ (.slice Ao60 t848.length co60 : Value).ownBlock ∧ some k_ ≠ (.slice Ao62 t862.length co62 : Value).ownBlock ∧ some k_ ≠ (v877 : Value).ownBlock) (fun _ => False) rfl rfl ?aO ?aR (fun _ _ h => h) (fun _ h => h.elim) ?aF ?aB ?aS ?aL ?_; (case aR => repeat (first | exact (Kd.R_reads' HO864.out).2.2 | (with_reducible refine Kd.C_alloc ?_ _) | (with_reducible refine Kd.C_drewN ?_ _) | (with_reducible refine Kd.C_drew ?_))); (case aB => exact (pB HB)); (case aF => exact (fun k_ hk => ⟨Kd.fresh' (Kd.R_lt (by (with_reducible repeat (first | apply Kd.R_alloc | apply Kd.R_drewN | apply Kd.R_drew)); exact HO850.out)) k_ hk, Kd.fresh' (Kd.R_lt (by (with_reducible repeat (first | apply Kd.R_alloc | apply Kd.R_drewN | apply Kd.R_drew)); exact HO864.out)) k_ hk, Kd.fresh' (Kd.R_lt (by (with_reducible repeat (first | apply Kd.R_alloc | apply Kd.R_drewN | apply Kd.R_drew)); exact HO878.out)) k_ hk⟩)); (case aO => exact (by (with_reducible repeat (first | apply Kd.R_alloc | apply Kd.R_drewN | apply Kd.R_drew)); exact HO888.out)); (case aS => exact (below_size (pB HB))); (case aL => have := LMc18.out; omega); intro v890 w61 ho hb hg hat; rw [← Ny889.out] at ho; have n0_ := Aside0.mk (blk_grown (g := gb828) (o := .cells #[.int .u8 a0_0, .int .u8 a0_1] 22 (0, 0)) (by (with_reducible repeat (first | refine blk_drewN ?_ _ | refine blk_drew ?_ | refine blk_alloc ?_ _)); exact BK828.out) hg (Kd.R_ne HO888.out BK828.out (by decide))); have n1_ := Aside0.mk (Kd.R_over' (by (with_reducible repeat (first | apply Kd.R_alloc | apply Kd.R_drewN | apply Kd.R_drew)); exact HO834.out) (Kd.R_typed (by (with_reducible repeat (first | apply Kd.R_alloc | apply Kd.R_drewN | apply Kd.R_drew)); exact HO888.out)) (by decide) hg); have n2_ := Aside0.mk (Kd.R_over' (by (with_reducible repeat (first | apply Kd.R_alloc | apply Kd.R_drewN | apply Kd.R_drew)); exact HO837.out) (Kd.R_typed (by (with_reducible repeat (first | apply Kd.R_alloc | apply Kd.R_drewN | apply Kd.R_drew)); exact HO888.out)) (by decide) hg); have n3_ := Aside0.mk (blk_grown (g := gb838) (o := .cells #[.int .i64 t829, .int .i64 t830, .int .i64 t831, .slice Ao26 t832.length co26, .slice Ao27 t835.length co27] 30 (0, 0)) (by (with_reducible repeat (first | refine blk_drewN ?_ _ | refine blk_drew ?_ | refine blk_alloc ?_ _)); exact BK838.out) hg (Kd.R_ne HO888.out BK838.out (by decide))); have n4_ := Aside0.mk (Kd.R_over' (by (with_reducible repeat (first | apply Kd.R_alloc | apply Kd.R_drewN | apply Kd.R_drew)); exact HO844.out) (Kd.R_typed (by (with_reducible repeat (first | apply Kd.R_alloc | apply Kd.R_drewN | apply Kd.R_drew)); exact HO888.out)) (by decide) hg); have n5_ := Aside0.mk (Kd.R_over' (by (with_reducible repeat (first | apply Kd.R_alloc | apply Kd.R_drewN | apply Kd.R_drew)); exact HO847.out) (Kd.R_typed (by (with_reducible repeat (first | apply Kd.R_alloc | apply Kd.R_drewN | apply Kd.R_drew)); exact HO888.out)) (by decide) hg); have n6_ := Aside0.mk (Kd.R_after (ok := (fun k_ => some k_ ≠ (.slice Ao62 t862.length co62 : Value).ownBlock ∧ some k_ ≠ (v877 : Value).ownBlock)) (by (with_reducible repeat (first | apply Kd.R_alloc | apply Kd.R_drewN | apply Kd.R_drew)); exact HO850.out) hg hat); have n7_ := Aside0.mk (blk_grown (g := gb852) (o := .cells #[.int .i64 t839, .int .i64 t840, .int .i64 t841, .slice Ao33 t842.length co33, .slice Ao34 t845.length co34] 30 (0, 0)) (by (with_reducible repeat (first | refine blk_drewN ?_ _ | refine blk_drew ?_ | refine blk_alloc ?_ _)); exact BK852.out) hg (Kd.R_ne HO888.out BK852.out (by decide))); have n8_ := Aside0.mk (Kd.R_over' (by (with_reducible repeat (first | apply Kd.R_alloc | apply Kd.R_drewN | apply Kd.R_drew)); exact HO858.out) (Kd.R_typed (by (with_reducible repeat (first | apply Kd.R_alloc | apply Kd.R_drewN | apply Kd.R_drew)); exact HO888.out)) (by decide) hg); have n9_ := Aside0.mk (Kd.R_over' (by (with_reducible repeat (first | apply Kd.R_alloc | apply Kd.R_drewN | apply Kd.R_drew)); exact HO861.out) (Kd.R_typed (by (with_reducible repeat (first | apply Kd.R_alloc | apply Kd.R_drewN | apply Kd.R_drew)); exact HO888.out)) (by decide) hg); have n10_ := Aside0.mk (Kd.R_after (ok := (fun k_ => some k_ ≠ (.slice Ao60 t848.length co60 : Value).ownBlock ∧ some k_ ≠ (v877 : Value).ownBlock)) (by (with_reducible repeat (first | apply Kd.R_alloc | apply Kd.R_drewN | apply Kd.R_drew)); exact HO864.out) hg hat); have n11_ := Aside0.mk (blk_grown (g := gb866) (o := .cells #[.int .i64 t853, .int .i64 t854, .int .i64 t855, .slice Ao41 t856.length co41, .slice Ao42 t859.length co42] 30 (0, 0)) (by (with_reducible repeat (first | refine blk_drewN ?_ _ | refine blk_drew ?_ | refine blk_alloc ?_ _)); exact BK866.out) hg (Kd.R_ne HO888.out BK866.out (by decide))); have n12_ := Aside0.mk (Kd.R_over' (by (with_reducible repeat (first | apply Kd.R_alloc | apply Kd.R_drewN | apply Kd.R_drew)); exact HO872.out) (Kd.R_typed (by (with_reducible repeat (first | apply Kd.R_alloc | apply Kd.R_drewN | apply Kd.R_drew)); exact HO888.out)) (by decide) hg); have n13_ := Aside0.mk (Kd.R_over' (by (with_reducible repeat (first | apply Kd.R_alloc | apply Kd.R_drewN | apply Kd.R_drew)); exact HO875.out) (Kd.R_typed (by (with_reducible repeat (first | apply Kd.R_alloc | apply Kd.R_drewN | apply Kd.R_drew)); exact HO888.out)) (by decide) hg); have n14_ := Aside0.mk (Kd.R_after (ok := (fun k_ => some k_ ≠ (.slice Ao60 t848.length co60 : Value).ownBlock ∧ some k_ ≠ (.slice Ao62 t862.length co62 : Value).ownBlock)) (by (with_reducible repeat (first | apply Kd.R_alloc | apply Kd.R_drewN | apply Kd.R_drew)); exact HO878.out) hg hat); have n15_ := Aside0.mk (blk_grown (g := gb880) (o := .cells #[.int .i64 t867, .int .i64 t868, .int .i64 t869, .slice Ao51 t870.length co51, .slice Ao52 t873.length co52] 30 (0, 0)) (by (with_reducible repeat (first | refine blk_drewN ?_ _ | refine blk_drew ?_ | refine blk_alloc ?_ _)); exact BK880.out) hg (Kd.R_ne HO888.out BK880.out (by decide))); have n16_ := Aside0.mk (hb); have n17_ := Aside0.mk (ho); clear BK828; clear HO834; clear HO837; clear BK838; clear HO844; clear HO847; clear HO850; clear BK852; clear HO858; clear HO861; clear HO864; clear BK866; clear HO872; clear HO875; clear HO878; clear BK880; clear HB; clear HO888; have BK828 := n0_; have HO834 := n1_; have HO837 := n2_; have BK838 := n3_; have HO844 := n4_; have HO847 := n5_; have HO850 := n6_; have BK852 := n7_; have HO858 := n8_; have HO861 := n9_; have HO864 := n10_; have BK866 := n11_; have HO872 := n12_; have HO875 := n13_; have HO878 := n14_; have BK880 := n15_; have HB := n16_; have HO891 := n17_; clear n0_ n1_ n2_ n3_ n4_ n5_ n6_ n7_ n8_ n9_ n10_ n11_ n12_ n13_ n14_ n15_ n16_ n17_; clear ho hb hg hat; obtain ⟨Ao63, co63, eo63⟩ := Kd.R_slice HO891.out; subst eo63; obtain ⟨Ao64, co64, eo64⟩ := Kd.R_slice HO878.out; subst eo64) | (go_at_call 16; (with_reducible refine (insolvencyref33_SameRulings.calls k _ _ y889 _ _ t876 t892 _ ?side1 ?side2 ?side3 ?side4 A19.out).mono ?_); (case side1 => repeat (first | exact (Kd.R_reads' HO891.out).2.2 | (with_reducible refine Kd.C_alloc ?_ _) | (with_reducible refine Kd.C_drewN ?_ _) | (with_reducible refine Kd.C_drew ?_))); (case side2 => exact (Kd.R_reads' HO891.out).2.1); (case side3 => repeat (first | exact (Kd.R_reads' HO878.out).2.2 | (with_reducible refine Kd.C_alloc ?_ _) | (with_reducible refine Kd.C_drewN ?_ _) | (with_reducible refine Kd.C_drew ?_))); (case side4 => exact (Kd.R_reads' HO878.out).2.1); rintro e w' ⟨rfl, ⟨nd, rfl⟩⟩))
        go_ret
        exact ⟨by first | rfl | (simp [errW_none, errW_some] <;> rfl) | (simp [*, errW_none, errW_some] <;> rfl), pB HB⟩
       ·rw [if_neg c18] at H
        exact absurd H (by simp)
      ·rw [if_neg c17] at H
       exact absurd H (by simp)
     ·replace c16 := Bool.eq_false_iff.mpr c16
      subst c16
      have H1 : (none) = some r := by rw [if_neg (show ¬ (false = true) by decide)] at H; exact H
      clear H
      have H := H1
      clear H1
      exact absurd H (by simp)
    ·rw [if_neg c14] at H
     exact absurd H (by simp)
   ·rw [if_neg c13] at H
    exact absurd H (by simp)
  ·rw [if_neg c12] at H
   exact absurd H (by simp)
 ·replace c11 := Bool.eq_false_iff.mpr c11
  subst c11
  have H1 : (none) = some r := by rw [if_neg (show ¬ (false = true) by decide)] at H; exact H
  clear H
  have H := H1
  clear H1
  exact absurd H (by simp)
end Go.Proofs.Ytpfiecjacpbhkaa.D

namespace Go.Proofs.YtpfiecjacpbhkaaW.PrintWords
open Go.ChangeShapes Go.WideShapes
end Go.Proofs.YtpfiecjacpbhkaaW.PrintWords

namespace Go.Proofs.Ytpfiecjacpbhkaa.Ho
open Go.RowKit Go.ChangeShapes Go.WideShapes Go.Deep Go.Proofs.YtpfiecjacpbhkaaW.PrintWords
open Go.Proofs.Ytpfiecjacpbhkaa.D
theorem rows_of {α : Type} {R : α → List Value → Prop} (ok : α → Prop) {size : Nat} {w : World} {A : Option Addr} {n : Nat} (hn : n ≤ maxLen)
    (h : 0 < n → ∃ ad, A = some ad ∧ ∀ i, i < n → ∃ x c, c.length = size ∧ R x c ∧ ok x ∧ ∀ j u, c[j]? = some u → w.cell? (ad.add (i * size + j)) = some u) :
    ∃ l : List α, n = l.length ∧ ReadsRow R size w A l.length l ∧ ∀ x ∈ l, ok x := by
  rcases Nat.eq_zero_or_pos n with h0 | hp
  · subst h0
    exact ⟨[], rfl, ⟨rfl, Nat.zero_le _, fun h => absurd h (Nat.lt_irrefl 0)⟩, fun x hx => by cases hx⟩
  · obtain ⟨ad, eA, hrow⟩ := h hp
    have key : ∀ m, m ≤ n → ∃ l : List α, l.length = m ∧ (∀ (j : Nat) (p : α), l[j]? = some p → ∃ c : List Value, c.length = size ∧ R p c ∧ ∀ i u, c[i]? = some u → w.cell? (ad.add (j * size + i)) = some u) ∧ ∀ x ∈ l, ok x := by
      intro m
      induction m with
      | zero => exact fun _ => ⟨[], rfl, fun j p hj => by simp at hj, fun x hx => by cases hx⟩
      | succ m ih =>
        intro hm
        obtain ⟨l, hl, hr, hok⟩ := ih (by omega)
        obtain ⟨x, c, hs, hR, hx, hcell⟩ := hrow m (by omega)
        refine ⟨l ++ [x], by simp [hl], ?_, ?_⟩
        · intro j p hj
          by_cases hlt : j < l.length
          · rw [List.getElem?_append_left hlt] at hj
            exact hr j p hj
          · have hle : l.length ≤ j := by omega
            rw [List.getElem?_append_right hle] at hj
            have e0 : j - l.length = 0 := by
              rcases Nat.eq_zero_or_pos (j - l.length) with e | e
              · exact e
              · rw [List.getElem?_eq_none (by simp; omega)] at hj
                cases hj
            rw [e0] at hj
            have ej : j = m := by omega
            subst ej
            have ex : x = p := by simpa using hj
            subst ex
            exact ⟨c, hs, hR, hcell⟩
        · intro y hy
          rcases List.mem_append.1 hy with h1 | h1
          · exact hok y h1
          · have : y = x := by simpa using h1
            subst this
            exact hx
    obtain ⟨l, hl, hr, hok⟩ := key n (Nat.le_refl _)
    refine ⟨l, hl.symm, ⟨rfl, ?_, fun _ => ⟨ad, eA, hr⟩⟩, hok⟩
    rw [hl]
    unfold maxLen at hn
    omega
section
variable {H : Type} {enc : TypeId × Value → H} {P : Program} {w : World} {base : Nat} {spare : Nat → Bool} {held : Bool}
def Reads (enc : TypeId × Value → H) (P : Program) (w : World) (base : Nat) (spare : Nat → Bool) (held : Bool) {α : Type} (e : TypeId) (R : α → List Value → Prop) (ok : α → Prop) : Prop :=
  ∀ (n : Nat) (cs : List Value) (x : DataW H × List MemPlace), cs.length = P.cellsOf e → DataW.trod enc P w base spare held n e cs = some x → ∃ a : α, R a cs ∧ ok a
theorem reads_int {t : TypeId} {k : IntKind} (ht : P.underlying t = some (.int k)) : Reads enc P w base spare held t (fun (a : Int) cs => cs = [.int k a]) (fun a => (Lit.int k a).wf = true) := by
  intro n cs x _ h
  cases n with
  | zero => simp [DataW.trod] at h
  | succ n =>
    unfold DataW.trod at h
    rw [ht] at h
    split at h <;> simp_all
theorem reads_bool {t : TypeId} (ht : P.underlying t = some .bool) : Reads enc P w base spare held t (fun (a : Bool) cs => cs = [.bool a]) (fun _ => True) := by
  intro n cs x _ h
  cases n with
  | zero => simp [DataW.trod] at h
  | succ n =>
    unfold DataW.trod at h
    rw [ht] at h
    split at h <;> simp_all
theorem open_rows {α : Type} {t e : TypeId} {R : α → List Value → Prop} {ok : α → Prop} {v : Value} {d : DataW H} {p : List MemPlace} {r : Reach} {b0 : Nat} (ht : P.underlying t = some (.slice e)) (hv : Value.okWide P w r b0 t v)
    (h : DataW.Trod enc P w base spare held t v d p) (hR : Reads enc P w base spare held e R ok) :
    ∃ (A : Option Addr) (l : List α) (cap : Nat), v = .slice A l.length cap ∧ l.length ≤ cap ∧ l.length ≤ maxLen ∧ ReadsRow R (P.cellsOf e) w A l.length l ∧ ∀ x ∈ l, ok x := by
  obtain ⟨A, len, cap, rfl⟩ := okWide_slice ht hv
  obtain ⟨fuel, hf⟩ := h
  rcases open_slice ht hf with ⟨hcs, _⟩ | ⟨a, len', cap', m, n, D, Pl, hcs, _, hl, hm, hmm, _, hi⟩
  · simp [Value.cells] at hcs
    obtain ⟨rfl, rfl, rfl⟩ := hcs
    exact ⟨none, [], 0, rfl, Nat.zero_le _, Nat.zero_le _, ⟨rfl, Nat.zero_le _, fun h => absurd h (Nat.lt_irrefl 0)⟩, fun x hx => by cases hx⟩
  · simp [Value.cells] at hcs
    obtain ⟨rfl, rfl, rfl⟩ := hcs
    have hlm : len ≤ m := by rw [hmm]; split <;> omega
    obtain ⟨l, rfl, hr, hok⟩ := rows_of (R := R) (w := w) (A := some a) (size := P.cellsOf e) ok (n := len) (by omega) (fun _ => ⟨a, rfl, fun i hi' => by
      obtain ⟨cs', hc, ht'⟩ := hi i (by omega)
      obtain ⟨_, hcl, hat⟩ := World.cells?_some hc
      obtain ⟨x, hx, hx'⟩ := hR n cs' _ hcl ht'
      refine ⟨x, cs', hcl, hx, hx', fun j u hu => ?_⟩
      have hj : j < cs'.length := (List.getElem?_eq_some_iff.1 hu).1
      rw [← Go.Deep.add_add, hat j (by omega), hu]⟩)
    exact ⟨some a, l, cap, rfl, hl, by omega, hr, hok⟩
theorem open_struct {α : Type} {t : TypeId} {fs : Array Field} {R : α → List Value → Prop} {ok : α → Prop} {v : Value} {d : DataW H} {p : List MemPlace} {r : Reach} {b0 : Nat} (ht : P.underlying t = some (.struct fs)) (hv : Value.okWide P w r b0 t v)
    (h : DataW.Trod enc P w base spare held t v d p) (hR : Reads enc P w base spare held t R ok) : ∃ (cs : List Value) (a : α), v = .agg cs.toArray ∧ R a cs ∧ ok a := by
  obtain ⟨cs, rfl, hsz⟩ := okWide_struct ht hv
  obtain ⟨fuel, hf⟩ := h
  obtain ⟨l⟩ := cs
  have e1 : (Value.agg ⟨l⟩).cells.toList = l := by simp [Value.cells]
  rw [e1] at hf
  obtain ⟨a, ha, ha'⟩ := hR fuel l _ (by simpa using hsz) hf
  exact ⟨l, a, rfl, ha, ha'⟩
theorem open_array {α : Type} {t e : TypeId} {n : Nat} {R : α → List Value → Prop} {ok : α → Prop} {v : Value} {d : DataW H} {p : List MemPlace} {r : Reach} {b0 : Nat} (ht : P.underlying t = some (.array n e)) (hv : Value.okWide P w r b0 t v)
    (h : DataW.Trod enc P w base spare held t v d p) (hR : Reads enc P w base spare held t R ok) : ∃ (cs : List Value) (a : α), v = .agg cs.toArray ∧ R a cs ∧ ok a := by
  simp only [Value.okWide, ht] at hv
  obtain ⟨cs, rfl, hsz, _⟩ := hv
  obtain ⟨fuel, hf⟩ := h
  obtain ⟨l⟩ := cs
  have e1 : (Value.agg ⟨l⟩).cells.toList = l := by simp [Value.cells]
  rw [e1] at hf
  obtain ⟨a, ha, ha'⟩ := hR fuel l _ (by simpa using hsz) hf
  exact ⟨l, a, rfl, ha, ha'⟩
theorem field_at {e : TypeId} {fs : Array Field} {n : Nat} {cs : List Value} {x : DataW H × List MemPlace} (he : P.underlying e = some (.struct fs)) (hone : oneCellFields P fs = true) (h : DataW.trod enc P w base spare held n e cs = some x) :
    ∃ m, ∀ (j : Nat) (f : Field) (v : Value), fs[j]? = some f → cs[j]? = some v → P.cellsOf f.type = 1 ∧ ∃ y, DataW.trod enc P w base spare held m f.type [v] = some y := by
  obtain ⟨ys, m, _, _, hlen, hyl, hf⟩ := DataW.trod_struct he h
  refine ⟨m, fun j f v hj hv => ?_⟩
  obtain ⟨ho, hk⟩ := hone_of hone j f hj
  have h1 := hf j f hj
  rw [ho, hk] at h1
  obtain ⟨hjc, hvj⟩ := List.getElem?_eq_some_iff.1 hv
  have hone' : (cs.drop j).take 1 = [v] := by
    rw [List.drop_eq_getElem_cons hjc, hvj]
    rfl
  rw [hone'] at h1
  have hjl : j < ys.length := by have := (Array.getElem?_eq_some_iff.1 hj).1; omega
  exact ⟨hk, ys[j], h1.trans (List.getElem?_eq_getElem hjl)⟩
theorem elem_at {e e' : TypeId} {k n : Nat} {cs : List Value} {x : DataW H × List MemPlace} (he : P.underlying e = some (.array k e')) (hone : P.cellsOf e' = 1) (h : DataW.trod enc P w base spare held n e cs = some x) :
    ∃ m, ∀ (j : Nat) (v : Value), j < k → cs[j]? = some v → ∃ y, DataW.trod enc P w base spare held m e' [v] = some y := by
  obtain ⟨ys, m, _, _, hlen, hyl, hf⟩ := DataW.trod_array he h
  refine ⟨m, fun j v hj hv => ?_⟩
  have h1 := hf j hj
  rw [hone, Nat.mul_one] at h1
  obtain ⟨hjc, hvj⟩ := List.getElem?_eq_some_iff.1 hv
  have hone' : (cs.drop j).take 1 = [v] := by
    rw [List.drop_eq_getElem_cons hjc, hvj]
    rfl
  rw [hone'] at h1
  exact ⟨ys[j]'(by omega), h1.trans (List.getElem?_eq_getElem (by omega))⟩
end
end Go.Proofs.Ytpfiecjacpbhkaa.Ho

namespace Go.Proofs.Ytpfiecjacpbhkaa.D
structure S22 where
  f0 : Int
  f1 : Int
def k22.K (_ : World) (x : S22) (cs : List Value) : Prop := cs = [.int .u8 x.f0, .int .u8 x.f1]
theorem k22_mk (w : World) (x : S22) : k22.K w x [.int .u8 x.f0, .int .u8 x.f1] := rfl
theorem k22_open {w : World} {x : S22} {cs : List Value} (h : k22.K w x cs) : cs = [.int .u8 x.f0, .int .u8 x.f1] := h
end Go.Proofs.Ytpfiecjacpbhkaa.D
namespace Go.Proofs.Ytpfiecjacpbhkaa.Ho
open Go.RowKit Go.ChangeShapes Go.WideShapes Go.Deep Go.Proofs.YtpfiecjacpbhkaaW.PrintWords
open Go.Proofs.Ytpfiecjacpbhkaa.D
set_option linter.unusedVariables false
set_option linter.unusedSimpArgs false
section
variable {H : Type} {enc : TypeId × Value → H} {w : World} {base : Nat} {spare : Nat → Bool} {held : Bool}
theorem cellsI_i64 : Try.prog.cellsOf 3 = 1 := by kernel_rfl
theorem cellsI_u16 : Try.prog.cellsOf 54 = 1 := by kernel_rfl
theorem cellsI_u8 : Try.prog.cellsOf 5 = 1 := by kernel_rfl
theorem cellsB : Try.prog.cellsOf 4 = 1 := by kernel_rfl
theorem readsI_i64 : Reads enc Try.prog w base spare held 3 (fun (a : Int) cs => (Kd.int .i64).K w a cs) (fun a => (Lit.int .i64 a).wf = true) := reads_int Try.underlying3
theorem readsI_u16 : Reads enc Try.prog w base spare held 54 (fun (a : Int) cs => (Kd.int .u16).K w a cs) (fun a => (Lit.int .u16 a).wf = true) := reads_int Try.underlying54
theorem readsI_u8 : Reads enc Try.prog w base spare held 5 (fun (a : Int) cs => (Kd.int .u8).K w a cs) (fun a => (Lit.int .u8 a).wf = true) := reads_int Try.underlying5
def ok22 (a : S22) : Prop := (Lit.int .u8 a.f0).wf = true ∧ (Lit.int .u8 a.f1).wf = true
theorem cells22 : Try.prog.cellsOf 22 = 2 := by kernel_rfl
theorem reads22 : Reads enc Try.prog w base spare held 22 (fun (a : S22) cs => k22.K w a cs) ok22 := by
  intro n cs x hl h
  rw [cells22] at hl
  obtain ⟨m, hm⟩ := elem_at Try.underlying22 (by kernel_rfl) h
  match cs, hl with
  | [v0, v1], _ =>
    obtain ⟨y0, h0⟩ := hm 0 v0 (by omega) rfl
    obtain ⟨b0, e0, w0⟩ := reads_int Try.underlying5 m [v0] y0 cellsI_u8.symm h0
    cases e0
    obtain ⟨y1, h1⟩ := hm 1 v1 (by omega) rfl
    obtain ⟨b1, e1, w1⟩ := reads_int Try.underlying5 m [v1] y1 cellsI_u8.symm h1
    cases e1
    exact ⟨⟨b0, b1⟩, k22_mk w _, w0, w1⟩
def ok47 (a : S47) : Prop := (Lit.int .i64 a.f0).wf = true ∧ (Lit.int .i64 a.f1).wf = true ∧ (Lit.int .i64 a.f2).wf = true ∧ (Lit.int .i64 a.f3).wf = true
theorem cells47 : Try.prog.cellsOf 47 = 4 := by kernel_rfl
theorem reads47 : Reads enc Try.prog w base spare held 47 (fun (a : S47) cs => k47.K w a cs) ok47 := by
  intro n cs x hl h
  rw [cells47] at hl
  obtain ⟨m, hm⟩ := field_at Try.underlying47 (by kernel_rfl) h
  match cs, hl with
  | [v0, v1, v2, v3], _ =>
    obtain ⟨_, y0, h0⟩ := hm 0 _ v0 rfl rfl
    obtain ⟨b0, e0, w0⟩ := reads_int Try.underlying3 m [v0] y0 cellsI_i64.symm h0
    cases e0
    obtain ⟨_, y1, h1⟩ := hm 1 _ v1 rfl rfl
    obtain ⟨b1, e1, w1⟩ := reads_int Try.underlying3 m [v1] y1 cellsI_i64.symm h1
    cases e1
    obtain ⟨_, y2, h2⟩ := hm 2 _ v2 rfl rfl
    obtain ⟨b2, e2, w2⟩ := reads_int Try.underlying3 m [v2] y2 cellsI_i64.symm h2
    cases e2
    obtain ⟨_, y3, h3⟩ := hm 3 _ v3 rfl rfl
    obtain ⟨b3, e3, w3⟩ := reads_int Try.underlying3 m [v3] y3 cellsI_i64.symm h3
    cases e3
    exact ⟨⟨b0, b1, b2, b3⟩, k47_mk w _, w0, w1, w2, w3⟩
def ok50 (a : S50) : Prop := (Lit.int .i64 a.f0).wf = true ∧ (Lit.int .i64 a.f1).wf = true ∧ (Lit.int .i64 a.f2).wf = true ∧ (Lit.int .i64 a.f3).wf = true
theorem cells50 : Try.prog.cellsOf 50 = 5 := by kernel_rfl
theorem reads50 : Reads enc Try.prog w base spare held 50 (fun (a : S50) cs => k50.K w a cs) ok50 := by
  intro n cs x hl h
  rw [cells50] at hl
  obtain ⟨m, hm⟩ := field_at Try.underlying50 (by kernel_rfl) h
  match cs, hl with
  | [v0, v1, v2, v3, v4], _ =>
    obtain ⟨_, y0, h0⟩ := hm 0 _ v0 rfl rfl
    obtain ⟨b0, e0, w0⟩ := reads_int Try.underlying3 m [v0] y0 cellsI_i64.symm h0
    cases e0
    obtain ⟨_, y1, h1⟩ := hm 1 _ v1 rfl rfl
    obtain ⟨b1, e1, w1⟩ := reads_int Try.underlying3 m [v1] y1 cellsI_i64.symm h1
    cases e1
    obtain ⟨_, y2, h2⟩ := hm 2 _ v2 rfl rfl
    obtain ⟨b2, e2, w2⟩ := reads_int Try.underlying3 m [v2] y2 cellsI_i64.symm h2
    cases e2
    obtain ⟨_, y3, h3⟩ := hm 3 _ v3 rfl rfl
    obtain ⟨b3, e3, w3⟩ := reads_int Try.underlying3 m [v3] y3 cellsI_i64.symm h3
    cases e3
    obtain ⟨_, y4, h4⟩ := hm 4 _ v4 rfl rfl
    obtain ⟨b4, e4, w4⟩ := reads_bool Try.underlying4 m [v4] y4 cellsB.symm h4
    cases e4
    exact ⟨⟨b0, b1, b2, b3, b4⟩, k50_mk w _, w0, w1, w2, w3⟩
def ok83 (a : S83) : Prop := (Lit.int .u8 a.f0).wf = true ∧ (Lit.int .u8 a.f1).wf = true ∧ (Lit.int .u8 a.f2).wf = true ∧ (Lit.int .u8 a.f3).wf = true
theorem cells83 : Try.prog.cellsOf 83 = 4 := by kernel_rfl
theorem reads83 : Reads enc Try.prog w base spare held 83 (fun (a : S83) cs => k83.K w a cs) ok83 := by
  intro n cs x hl h
  rw [cells83] at hl
  obtain ⟨m, hm⟩ := elem_at Try.underlying83 (by kernel_rfl) h
  match cs, hl with
  | [v0, v1, v2, v3], _ =>
    obtain ⟨y0, h0⟩ := hm 0 v0 (by omega) rfl
    obtain ⟨b0, e0, w0⟩ := reads_int Try.underlying5 m [v0] y0 cellsI_u8.symm h0
    cases e0
    obtain ⟨y1, h1⟩ := hm 1 v1 (by omega) rfl
    obtain ⟨b1, e1, w1⟩ := reads_int Try.underlying5 m [v1] y1 cellsI_u8.symm h1
    cases e1
    obtain ⟨y2, h2⟩ := hm 2 v2 (by omega) rfl
    obtain ⟨b2, e2, w2⟩ := reads_int Try.underlying5 m [v2] y2 cellsI_u8.symm h2
    cases e2
    obtain ⟨y3, h3⟩ := hm 3 v3 (by omega) rfl
    obtain ⟨b3, e3, w3⟩ := reads_int Try.underlying5 m [v3] y3 cellsI_u8.symm h3
    cases e3
    exact ⟨⟨b0, b1, b2, b3⟩, k83_mk w _, w0, w1, w2, w3⟩
end
end Go.Proofs.Ytpfiecjacpbhkaa.Ho

namespace Go.Proofs.Ytpfiecjacpbhkaa.D
open Go.RowKit
def insolvencylaw33_DocketTwice.Pure : Prop := ∀ (a0 : S22) (l1 : List Int) (l2 : List S83) (a3 : Int) (a4 : Int), Ho.ok22 a0 → l1.length ≤ maxLen → (∀ x ∈ l1, (Lit.int .u16 x).wf = true) → l2.length ≤ maxLen → (∀ x ∈ l2, Ho.ok83 x) → (Lit.int .u8 a3).wf = true → (Lit.int .u8 a4).wf = true → ∃ k, insolvencylaw33_DocketTwice.f k a0.f0 a0.f1 l1 l2 a3 a4 = some true
end Go.Proofs.Ytpfiecjacpbhkaa.D

namespace Go.Proofs.Ytpfiecjacpbhkaa.Hx
open Go.RowKit Go.Proofs.YtpfiecjacpbhkaaW.PrintWords Go.Proofs.YtpfiecjacpbhkaaW.PrintLast Go.Proofs.YtpfiecjacpbhkaaW.PrintMore F Hm
set_option linter.unusedVariables false
theorem ev_const {α : Type} {o : Option α} {r : α} (h : o = some r) : Ev (fun _ => o) r := ⟨0, fun _ _ => h⟩
theorem ev_if {α : Type} {c : Prop} [Decidable c] {g f : Nat → Option α} {r : α} (h : c) (k : Ev g r) : Ev (fun n => if c then g n else f n) r := by
  obtain ⟨K, k⟩ := k
  exact ⟨K, fun n hn => by show (if c then g n else f n) = _; rw [if_pos h]; exact k n hn⟩
theorem ev_else {α : Type} {c : Prop} [Decidable c] {g f : Nat → Option α} {r : α} (h : ¬ c) (k : Ev f r) : Ev (fun n => if c then g n else f n) r := by
  obtain ⟨K, k⟩ := k
  exact ⟨K, fun n hn => by show (if c then g n else f n) = _; rw [if_neg h]; exact k n hn⟩
theorem ev_then {α β : Type} {o : Option α} {f : Nat → α → Option β} {a : α} {r : β} (h : o = some a) (k : Ev (fun n => f n a) r) : Ev (fun n => o.bind (f n)) r := by
  obtain ⟨K, k⟩ := k
  exact ⟨K, fun n hn => by show o.bind (f n) = _; rw [h]; exact k n hn⟩
theorem w64 (x : Int) (h0 : -9223372036854775808 ≤ x) (h1 : x ≤ 9223372036854775807) : wrap64 x = x := by
  unfold wrap64
  omega
def isD (d : Int) : Bool := decide (0 ≤ d) && decide (d ≤ 1048576)
theorem isDay_some (d : Int) : calendar_isDay.f d = some (isD d) := by
  unfold calendar_isDay.f isD
  by_cases h : d ≥ 0
  · rw [if_pos h, decide_eq_true (show 0 ≤ d from h), Bool.true_and]
  · rw [if_neg h, decide_eq_false (show ¬ 0 ≤ d from h), Bool.false_and]
theorem refDay_some (d : Int) : insolvencyref1_IsDay.f d = some (isD d) := isDay_some d
theorem tmod_pos (d m : Int) (h : 0 ≤ d) : Int.tmod d m = d % m := Int.tmod_eq_emod_of_nonneg h
theorem tmod_neg (d m : Int) (h : d < 0) : Int.tmod d m = -((-d) % m) := by
  have e : Int.tmod d m = -(Int.tmod (-d) m) := by rw [Int.neg_tmod, Int.neg_neg]
  rw [e, tmod_pos (-d) m (by omega)]
theorem tmod7 (d : Int) : Int.tmod (wrap64 (Int.tmod d 7 + 7)) 7 = d % 7 := by
  by_cases h : 0 ≤ d
  · rw [tmod_pos d 7 h, w64 _ (by omega) (by omega), tmod_pos _ 7 (by omega)]
    omega
  · rw [tmod_neg d 7 (by omega), w64 _ (by omega) (by omega), tmod_pos _ 7 (by omega)]
    omega
theorem weekday_some (d : Int) : calendar_Weekday.f d = some (d % 7) := by
  unfold calendar_Weekday.f
  rw [tmod7]
theorem refWeekday_some (d : Int) : insolvencyref1_Weekday.f d = some (d % 7) := by
  unfold insolvencyref1_Weekday.f
  by_cases h0 : 0 ≤ d
  · rw [tmod_pos d 7 h0, if_neg (by omega)]
  · rw [tmod_neg d 7 (by omega)]
    by_cases h : -((-d) % 7) < 0
    · rw [if_pos h, w64 _ (by omega) (by omega)]
      congr 1
      omega
    · rw [if_neg h]
      congr 1
      omega
theorem has_ev (l : List Int) (d : Int) : ∀ (n i : Nat), i ≤ l.length → l.length - i = n → l.length ≤ 9223372036854775806 →
    Ev (fun k => insolvencyref1_has.l0 k l d (i : Int)) ((l.drop i).contains d) := by
  intro n
  induction n with
  | zero =>
    intro i hi hn hl
    refine Ev.step (f := fun _ => some false) (fun k => ?_) (by rw [List.drop_eq_nil_of_le (by omega)]; exact Ev.now false)
    rw [insolvencyref1_has.l0, if_neg (by omega)]
  | succ n ih =>
    intro i hi hn hl
    have hlt : i < l.length := by omega
    have e : l.drop i = l[i] :: l.drop (i + 1) := List.drop_eq_getElem_cons hlt
    rw [e, List.contains_cons]
    by_cases hd : rd l (i : Int) = d
    · refine Ev.step (f := fun _ => some true) (fun k => ?_) ?_
      · rw [insolvencyref1_has.l0, if_pos (by omega), if_pos (by omega), if_pos hd]
      · rw [rd_nat l i hlt] at hd
        rw [hd]
        simpa using Ev.now true
    · refine Ev.step (f := fun k => insolvencyref1_has.l0 k l d ((i + 1 : Nat) : Int)) (fun k => ?_) ?_
      · rw [insolvencyref1_has.l0, if_pos (by omega), if_pos (by omega), if_neg hd, w64 _ (by omega) (by omega)]
        rfl
      · rw [rd_nat l i hlt] at hd
        rw [show (d == l[i]) = false from by simpa using fun z => hd z.symm, Bool.false_or]
        exact ih (i + 1) (by omega) (by omega) hl
theorem refBus_ev (hs : List Int) (d : Int) (hl : hs.length ≤ 9223372036854775806) : Ev (fun k => insolvencyref1_IsBusiness.f k d hs) (bus hs d) := by
  unfold insolvencyref1_IsBusiness.f
  refine ev_then (refDay_some d) ?_
  have hb : bus hs d = (isD d && (decide (d % 7 < 5) && !hs.contains d)) := by unfold bus isD; rw [Bool.and_assoc]
  rw [hb]
  cases isD d with
  | false => exact ev_else (by simp) (Ev.now false)
  | true =>
    refine ev_if rfl (ev_then (refWeekday_some d) ?_)
    by_cases h5 : d % 7 < 5
    · rw [decide_eq_true h5]
      refine ev_if h5 ?_
      have := has_ev hs d hs.length 0 (by omega) (by omega) hl
      rw [List.drop_zero] at this
      simp only [Bool.true_and]
      exact Ev.bind (f := fun _ t => some (!t)) this (Ev.now _)
    · rw [decide_eq_false h5]
      exact ev_else h5 (Ev.now false)
theorem sorted_loop (hs : List Int) (hl : hs.length ≤ 1000) : ∀ (n i : Nat) (acc : List Int), i ≤ hs.length → hs.length - i = n → acc.length ≤ i →
    Ev (fun k => calendar_sorted.l0 k acc hs (hs.length : Int) (i : Int)) (Lib.compact ((acc ++ (hs.drop i).filter fun h => decide (0 ≤ h) && (decide (h ≤ 1048576) && decide (h % 7 < 5))).mergeSort fun x y => decide (x ≤ y))) := by
  intro n
  induction n with
  | zero =>
    intro i acc hi hn ha
    refine Ev.step (f := fun _ => some (Lib.compact (acc.mergeSort fun x y => decide (x ≤ y)))) (fun k => ?_) ?_
    · rw [calendar_sorted.l0, if_neg (by omega)]
      simp [Hw.slices_Sort_closed.f, Hw.slices_Compact_closed.f, show acc.length < 4611686018427387904 by omega]
    · rw [List.drop_eq_nil_of_le (by omega), List.filter_nil, List.append_nil]
      exact Ev.now _
  | succ n ih =>
    intro i acc hi hn ha
    have hlt : i < hs.length := by omega
    have e : hs.drop i = hs[i] :: hs.drop (i + 1) := List.drop_eq_getElem_cons hlt
    have er : rd hs (i : Int) = hs[i] := rd_nat hs i hlt
    rw [e, List.filter_cons]
    have go : ∀ acc' : List Int, acc'.length ≤ i + 1 → Ev (fun k => calendar_sorted.l0 k acc' hs (hs.length : Int) (wrap64 ((i : Int) + 1))) (Lib.compact ((acc' ++ (hs.drop (i + 1)).filter fun h => decide (0 ≤ h) && (decide (h ≤ 1048576) && decide (h % 7 < 5))).mergeSort fun x y => decide (x ≤ y))) := by
      intro acc' ha'
      rw [w64 _ (by omega) (by omega)]
      exact ih (i + 1) acc' (by omega) (by omega) ha'
    by_cases hd : isD hs[i] = true
    · by_cases h5 : hs[i] % 7 < 5
      · rw [if_pos (by simp only [isD, Bool.and_eq_true, decide_eq_true_eq] at hd ⊢; exact ⟨hd.1, hd.2, h5⟩)]
        refine Ev.step (f := fun k => calendar_sorted.l0 k (acc ++ [hs[i]]) hs (hs.length : Int) (wrap64 ((i : Int) + 1))) (fun k => ?_) ?_
        · rw [calendar_sorted.l0, if_pos (by omega), if_pos (by omega), if_pos (by omega), er, isDay_some, Option.bind_some, if_pos hd, weekday_some, Option.bind_some, if_pos h5, if_pos (by omega)]
        · have := go (acc ++ [hs[i]]) (by simp; omega)
          rw [List.append_assoc] at this
          exact this
      · rw [if_neg (by simp only [Bool.and_eq_true, decide_eq_true_eq]; intro z; exact h5 z.2.2)]
        refine Ev.step (f := fun k => calendar_sorted.l0 k acc hs (hs.length : Int) (wrap64 ((i : Int) + 1))) (fun k => ?_) (go acc (by omega))
        rw [calendar_sorted.l0, if_pos (by omega), if_pos (by omega), if_pos (by omega), er, isDay_some, Option.bind_some, if_pos hd, weekday_some, Option.bind_some, if_neg h5]
    · rw [if_neg (by simp only [isD, Bool.and_eq_true, decide_eq_true_eq] at hd ⊢; intro z; exact hd ⟨z.1, z.2.1⟩)]
      refine Ev.step (f := fun k => calendar_sorted.l0 k acc hs (hs.length : Int) (wrap64 ((i : Int) + 1))) (fun k => ?_) (go acc (by omega))
      rw [calendar_sorted.l0, if_pos (by omega), if_pos (by omega), if_pos (by omega), er, isDay_some, Option.bind_some, if_neg hd]
theorem sorted_ev (hs : List Int) (hl : hs.length ≤ 1000) : Ev (fun k => calendar_sorted.f k hs) (closedOf hs) := by
  have := sorted_loop hs hl hs.length 0 [] (by omega) (by omega) (by simp)
  rw [List.drop_zero, List.nil_append] at this
  exact this
theorem before_some (hs c : List Int) (hc : IsClosed hs c) (hl : c.length ≤ 1000) (d : Nat) (hd : d ≤ 1048577) : E.calendar_closed_before.f c (d : Int) = some (cnt hs d : Int) := by
  have h1 := cnt_closed hc d hd
  have h2 := bs_nb c (d : Int) hc.1
  have h3 := nb_le c (d : Int)
  have h4 := cnt_le hs d
  unfold E.calendar_closed_before.f Hw.sort_SearchInts.f
  rw [if_pos (by omega), Option.bind_some, h2]
  have e : mn (Int.tmod (d : Int) 7) 5 = ((min (d % 7) 5 : Nat) : Int) := by
    rw [tmod_pos _ 7 (by omega)]
    unfold mn
    split <;> omega
  have e2 : Int.tdiv (d : Int) 7 = (d : Int) / 7 := Int.tdiv_eq_ediv_of_nonneg (by omega)
  rw [e, e2, w64 ((d : Int) / 7) (by omega) (by omega)]
  unfold wk at h1
  rw [w64 ((d : Int) / 7 * 5) (by omega) (by omega), w64 (_ + _) (by omega) (by omega), w64 _ (by omega) (by omega)]
  congr 1
  omega
theorem nth_some (hs c : List Int) (hc : IsClosed hs c) (hl : c.length ≤ 1000) (m : Int) (hm : 0 ≤ m) : ∃ r, Hw.calendar_closed_nth.f c m = some r ∧ IsRes hs m r := by
  unfold Hw.calendar_closed_nth.f
  rw [if_pos (by omega)]
  refine ⟨_, ?_, res_of_bs hm (p := Hw.nthP c m) (fun d hd => ?_)⟩
  · split <;> rfl
  · unfold Hw.nthP
    have := before_some hs c hc hl (d + 1) (by omega)
    rw [show ((d + 1 : Nat) : Int) = (d : Int) + 1 by omega] at this
    rw [this]
    rfl
def mOf (hs : List Int) (day n : Int) : Int := if n = 0 then (cnt hs day.toNat : Int) else (cnt hs (day.toNat + 1) : Int) + n - 1
def IsAdd (hs : List Int) (day n : Int) (r : Int × Int) : Prop :=
  if (hs.length : Int) > 1000 then r = (0, 2) else if isD day = true ∧ 0 ≤ n ∧ n ≤ 1048576 then IsRes hs (mOf hs day n) r else r = (0, 1)
theorem IsAdd.unique {hs : List Int} {day n : Int} {x y : Int × Int} (h : IsAdd hs day n x) (k : IsAdd hs day n y) : x = y := by
  unfold IsAdd at h k
  by_cases h1 : (hs.length : Int) > 1000
  · rw [if_pos h1] at h k; rw [h, k]
  · rw [if_neg h1] at h k
    by_cases h2 : isD day = true ∧ 0 ≤ n ∧ n ≤ 1048576
    · rw [if_pos h2] at h k; exact h.unique k
    · rw [if_neg h2] at h k; rw [h, k]
theorem IsAdd.long {hs : List Int} {day n : Int} (h : (hs.length : Int) > 1000) : IsAdd hs day n (0, 2) := by unfold IsAdd; rw [if_pos h]
theorem IsAdd.ok {hs : List Int} {day n : Int} {r : Int × Int} (h : ¬ (hs.length : Int) > 1000) (h2 : isD day = true ∧ 0 ≤ n ∧ n ≤ 1048576) (hr : IsRes hs (mOf hs day n) r) : IsAdd hs day n r := by unfold IsAdd; rw [if_neg h, if_pos h2]; exact hr
theorem IsAdd.bad {hs : List Int} {day n : Int} (h : ¬ (hs.length : Int) > 1000) (h2 : ¬ (isD day = true ∧ 0 ≤ n ∧ n ≤ 1048576)) : IsAdd hs day n (0, 1) := by unfold IsAdd; rw [if_neg h, if_neg h2]
theorem mOf_nonneg (hs : List Int) (day n : Int) (hn : 0 ≤ n) : 0 ≤ mOf hs day n := by
  unfold mOf
  split <;> omega
theorem add_ev (hs : List Int) (day n : Int) : ∃ r, Ev (fun k => calendar_Add.f k day n hs) r ∧ IsAdd hs day n r := by
  unfold calendar_Add.f
  by_cases h1 : (hs.length : Int) > 1000
  · exact ⟨(0, 2), ev_if h1 (Ev.now _), IsAdd.long h1⟩
  have bad : ∀ b : Bool, b = true → Ev (fun k => calendar_Add.j0 k day n hs b) ((0, 1) : Int × Int) := by
    rintro b rfl
    refine Ev.step (f := fun _ => some (0, 1)) (fun k => ?_) (Ev.now _)
    rw [calendar_Add.j0, if_pos rfl]
  by_cases h2 : isD day = true ∧ 0 ≤ n ∧ n ≤ 1048576
  · have h2' := h2
    obtain ⟨hd, hn0, hn1⟩ := h2
    have hd' := hd
    simp only [isD, Bool.and_eq_true, decide_eq_true_eq] at hd'
    obtain ⟨d, rfl⟩ := Int.eq_ofNat_of_zero_le hd'.1
    have hcl := closedOf_closed hs
    have hln : (closedOf hs).length ≤ 1000 := by have := closedOf_length hs; omega
    obtain ⟨r, hr, hres⟩ := nth_some hs (closedOf hs) hcl hln (mOf hs (d : Int) n) (mOf_nonneg _ _ _ hn0)
    refine ⟨r, ?_, IsAdd.ok h1 h2' hres⟩
    refine ev_else h1 (ev_then (isDay_some _) (ev_if hd (ev_else (show ¬ n < 0 by omega) ?_)))
    rw [decide_eq_false (show ¬ n > 1048576 by omega)]
    refine Ev.step (f := fun k => (calendar_sorted.f k hs).bind fun t => _) (fun k => ?_) (Ev.bind (f := fun _ t => if n = 0 then ((E.calendar_closed_before.f t (d : Int)).bind fun t115 => ((Hw.calendar_closed_nth.f t t115).bind fun bt116 => (some (bt116.1, bt116.2)))) else ((E.calendar_closed_before.f t (wrap64 ((d : Int) + 1))).bind fun t118 => ((Hw.calendar_closed_nth.f t (wrap64 ((wrap64 (t118 + n)) - 1))).bind fun bt119 => (some (bt119.1, bt119.2))))) (sorted_ev hs (by omega)) ?_)
    · rw [calendar_Add.j0, if_neg (by simp)]
    · have hdn : d ≤ 1048576 := by omega
      have c1 := cnt_le hs (d + 1)
      unfold mOf at hr
      rw [Int.toNat_natCast] at hr
      by_cases h0 : n = 0
      · rw [if_pos h0] at hr ⊢
        rw [before_some hs _ hcl hln d (by omega), Option.bind_some, hr]
        exact Ev.now _
      · rw [if_neg h0] at hr ⊢
        rw [w64 ((d : Int) + 1) (by omega) (by omega), show ((d : Int) + 1) = ((d + 1 : Nat) : Int) by omega, before_some hs _ hcl hln (d + 1) (by omega), Option.bind_some, w64 (_ + n) (by omega) (by omega), w64 _ (by omega) (by omega), hr]
        exact Ev.now _
  · refine ⟨(0, 1), ?_, IsAdd.bad h1 h2⟩
    refine ev_else h1 (ev_then (isDay_some _) ?_)
    by_cases hd : isD day = true
    · refine ev_if hd ?_
      by_cases hn : n < 0
      · exact ev_if hn (bad _ rfl)
      · exact ev_else hn (bad _ (decide_eq_true (show n > 1048576 from by
          have h3 : ¬ (0 ≤ n ∧ n ≤ 1048576) := fun z => h2 ⟨hd, z⟩
          omega)))
    · exact ev_else hd (bad _ rfl)
theorem refLoop (hs : List Int) (hl : hs.length ≤ 1000) : ∀ (j d : Nat) (n : Int), d ≤ 1048577 → 1048577 - d = j → 0 ≤ n → n ≤ 1048576 →
    ∃ r, Ev (fun k => insolvencyref1_AddDays.l0 k n hs (d : Int)) r ∧ IsRes hs ((cnt hs d : Int) + (if n ≤ 1 then 1 else n) - 1) r := by
  intro j
  induction j with
  | zero =>
    intro d n hd hj h0 h1
    obtain rfl : d = 1048577 := by omega
    refine ⟨(0, 1), Ev.step (f := fun _ => some (0, 1)) (fun k => ?_) (Ev.now _), .inr ⟨rfl, by split <;> omega⟩⟩
    rw [insolvencyref1_AddDays.l0, if_neg (by omega)]
  | succ j ih =>
    intro d n hd hj h0 h1
    have hb := refBus_ev hs (d : Int) (by omega)
    have hc : cnt hs (d + 1) = cnt hs d + if bus hs (d : Int) = true then 1 else 0 := rfl
    have unf : ∀ k, insolvencyref1_AddDays.l0 (k + 1) n hs (d : Int) = (insolvencyref1_IsBusiness.f k (d : Int) hs).bind fun t => if t = true then (if n ≤ 1 then some ((d : Int), 0) else insolvencyref1_AddDays.l0 k (wrap64 (n - 1)) hs (wrap64 ((d : Int) + 1))) else insolvencyref1_AddDays.l0 k n hs (wrap64 ((d : Int) + 1)) := fun k => by
      rw [insolvencyref1_AddDays.l0, if_pos (by omega)]
    have e1 : wrap64 ((d : Int) + 1) = ((d + 1 : Nat) : Int) := by rw [w64 _ (by omega) (by omega)]; omega
    by_cases hbus : bus hs (d : Int) = true
    · rw [if_pos hbus] at hc
      by_cases hn : n ≤ 1
      · refine ⟨((d : Int), 0), Ev.step unf (Ev.bind hb ?_), .inl ⟨d, by omega, rfl, by rw [if_pos hn]; omega, by rw [if_pos hn]; omega⟩⟩
        exact ev_if hbus (ev_if hn (Ev.now _))
      · obtain ⟨r, hr, hres⟩ := ih (d + 1) (n - 1) (by omega) (by omega) (by omega) (by omega)
        refine ⟨r, Ev.step unf (Ev.bind hb ?_), ?_⟩
        · refine ev_if hbus (ev_else hn ?_)
          rw [e1, w64 (n - 1) (by omega) (by omega)]
          exact hr
        · rw [if_neg hn]
          rw [hc] at hres
          by_cases h2 : n - 1 ≤ 1
          · rw [if_pos h2] at hres
            rw [show (cnt hs d : Int) + n - 1 = ((cnt hs d + 1 : Nat) : Int) + 1 - 1 by omega]
            exact hres
          · rw [if_neg h2] at hres
            rw [show (cnt hs d : Int) + n - 1 = ((cnt hs d + 1 : Nat) : Int) + (n - 1) - 1 by omega]
            exact hres
    · obtain ⟨r, hr, hres⟩ := ih (d + 1) n (by omega) (by omega) h0 h1
      refine ⟨r, Ev.step unf (Ev.bind hb ?_), ?_⟩
      · refine ev_else hbus ?_
        rw [e1]
        exact hr
      · rw [if_neg hbus] at hc
        rw [hc] at hres
        exact hres
theorem refAdd_ev (hs : List Int) (day n : Int) : ∃ r, Ev (fun k => insolvencyref1_AddDays.f k day n hs) r ∧ IsAdd hs day n r := by
  unfold insolvencyref1_AddDays.f
  by_cases h1 : (hs.length : Int) > 1000
  · exact ⟨(0, 2), ev_if h1 (Ev.now _), IsAdd.long h1⟩
  have bad : ∀ b : Bool, b = true → Ev (fun k => insolvencyref1_AddDays.j0 k day n hs b) ((0, 1) : Int × Int) := by
    rintro b rfl
    refine Ev.step (f := fun _ => some (0, 1)) (fun k => ?_) (Ev.now _)
    rw [insolvencyref1_AddDays.j0, if_pos rfl]
  by_cases h2 : isD day = true ∧ 0 ≤ n ∧ n ≤ 1048576
  · have h2' := h2
    obtain ⟨hd, hn0, hn1⟩ := h2
    have hd' := hd
    simp only [isD, Bool.and_eq_true, decide_eq_true_eq] at hd'
    obtain ⟨d, rfl⟩ := Int.eq_ofNat_of_zero_le hd'.1
    have start : ∃ r, Ev (fun k => insolvencyref1_AddDays.j0 k (d : Int) n hs false) r ∧ IsRes hs (mOf hs (d : Int) n) r := by
      unfold mOf
      rw [Int.toNat_natCast]
      by_cases h0 : n = 0
      · obtain ⟨r, hr, hres⟩ := refLoop hs (by omega) _ d n (by omega) rfl (by omega) hn1
        refine ⟨r, Ev.step (f := fun k => insolvencyref1_AddDays.j1 k n hs (d : Int)) (fun k => ?_) (Ev.step (f := fun k => insolvencyref1_AddDays.l0 k n hs (d : Int)) (fun k => ?_) hr), ?_⟩
        · rw [insolvencyref1_AddDays.j0, if_neg (by simp), if_neg (by omega)]
        · rw [insolvencyref1_AddDays.j1]
        · rw [if_pos h0]
          rw [if_pos (by omega : n ≤ 1)] at hres
          rw [show (cnt hs d : Int) + 1 - 1 = (cnt hs d : Int) by omega] at hres
          exact hres
      · obtain ⟨r, hr, hres⟩ := refLoop hs (by omega) _ (d + 1) n (by omega) rfl (by omega) hn1
        refine ⟨r, Ev.step (f := fun k => insolvencyref1_AddDays.j1 k n hs ((d + 1 : Nat) : Int)) (fun k => ?_) (Ev.step (f := fun k => insolvencyref1_AddDays.l0 k n hs ((d + 1 : Nat) : Int)) (fun k => ?_) hr), ?_⟩
        · rw [insolvencyref1_AddDays.j0, if_neg (by simp), if_pos (by omega), w64 _ (by omega) (by omega)]
          rfl
        · rw [insolvencyref1_AddDays.j1]
        · rw [if_neg h0]
          by_cases h3 : n ≤ 1
          · rw [if_pos h3] at hres
            rw [show n = 1 by omega]
            exact hres
          · rw [if_neg h3] at hres
            exact hres
    obtain ⟨r, hr, hres⟩ := start
    refine ⟨r, ?_, IsAdd.ok h1 h2' hres⟩
    refine ev_else h1 (ev_then (refDay_some _) (ev_if hd (ev_else (show ¬ n < 0 by omega) ?_)))
    rw [decide_eq_false (show ¬ n > 1048576 by omega)]
    exact hr
  · refine ⟨(0, 1), ?_, IsAdd.bad h1 h2⟩
    refine ev_else h1 (ev_then (refDay_some _) ?_)
    by_cases hd : isD day = true
    · refine ev_if hd ?_
      by_cases hn : n < 0
      · exact ev_if hn (bad _ rfl)
      · exact ev_else hn (bad _ (decide_eq_true (show n > 1048576 from by
          have h3 : ¬ (0 ≤ n ∧ n ≤ 1048576) := fun z => h2 ⟨hd, z⟩
          omega)))
    · exact ev_else hd (bad _ rfl)
theorem adds (hs : List Int) (day n : Int) : ∃ r, Ev (fun k => calendar_Add.f k day n hs) r ∧ Ev (fun k => insolvencyref1_AddDays.f k day n hs) r ∧ IsAdd hs day n r := by
  obtain ⟨r, h1, h2⟩ := add_ev hs day n
  obtain ⟨q, k1, k2⟩ := refAdd_ev hs day n
  obtain rfl := h2.unique k2
  exact ⟨r, h1, k1, h2⟩
end Go.Proofs.Ytpfiecjacpbhkaa.Hx

namespace Go.Proofs.Ytpfiecjacpbhkaa.D
open Go.RowKit Go.Proofs.YtpfiecjacpbhkaaW.PrintWords Go.Proofs.YtpfiecjacpbhkaaW.PrintLast Go.Proofs.YtpfiecjacpbhkaaW.PrintMore Hx
set_option linter.unusedVariables false
set_option linter.unusedSimpArgs false
theorem awake_ev : Ev (fun k => insolvencylaw33_awake.f k) true := Ev.of (k := 64) (fun k => insolvencylaw33_awake.mono k) (by kernel_rfl)
def ctE (day ans app : Int) (n : Nat) : Int :=
  if day < 0 ∨ 1048576 < day then 1 else if 1000 < n then 2 else if (ans < 1 ∨ 250 < ans) ∨ app < 1 ∨ 250 < app then 1 else 0
theorem checkTerms_ev (day ans app : Int) (hs : List Int) : Ev (fun k => docket_checkTerms.f k day ans app hs) (ctE day ans app hs.length) := by
  refine ⟨1, fun k hk => ?_⟩
  obtain ⟨k, rfl⟩ : ∃ m, k = m + 1 := ⟨k - 1, by omega⟩
  show docket_checkTerms.f (k + 1) day ans app hs = _
  unfold docket_checkTerms.f docket_checkTerms.j0 ctE
  repeat' split
  all_goals first | rfl | (exfalso; simp at *; done) | (exfalso; simp at *; omega)
theorem refCheckTerms_some (day ans app : Int) (hs : List Int) : insolvencyref33_checkTerms.f day ans app hs = some (ctE day ans app hs.length) := by
  unfold insolvencyref33_checkTerms.f insolvencyref33_day.f ctE
  by_cases h0 : day ≥ 0
  · rw [if_pos h0, Option.bind_some]
    repeat' split
    all_goals first | rfl | (exfalso; simp at *; done) | (exfalso; simp at *; omega)
  · rw [if_neg h0, Option.bind_some, if_neg (by simp), if_pos (by omega)]
theorem ctE_len {day ans app : Int} {n : Nat} (h : ctE day ans app n = 0) : n ≤ 1000 := by
  unfold ctE at h
  split at h
  · cases h
  · split at h
    · cases h
    · omega
theorem cloneInts_some (l : List Int) (h : l.length < 17592186044416) : cloneInts.f l = some l := by
  unfold cloneInts.f
  rw [Option.bind_some, if_pos (by simpa using h), List.nil_append]
abbrev Dn := Int × Int × Int × List Int × List S50 × Int
def newV (day ans app : Int) (hs : List Int) : Dn := if ctE day ans app hs.length = 0 then (day, ans, app, hs, [], 0) else (0, 0, 0, [], [], ctE day ans app hs.length)
theorem newV_ok {day ans app : Int} {hs : List Int} (h : ctE day ans app hs.length = 0) : newV day ans app hs = (day, ans, app, hs, [], 0) := if_pos h
theorem newV_err {day ans app : Int} {hs : List Int} (h : ¬ ctE day ans app hs.length = 0) : newV day ans app hs = (0, 0, 0, [], [], ctE day ans app hs.length) := if_neg h
theorem new_ev (day ans app : Int) (hs : List Int) : Ev (fun k => docket_New.f k day ans app hs) (newV day ans app hs) := by
  unfold docket_New.f
  refine Ev.bind (checkTerms_ev day ans app hs) ?_
  by_cases h : ctE day ans app hs.length = 0
  · rw [newV_ok h]
    refine ev_if h (ev_then (a := (ans, app, hs)) ?_ (Ev.now _))
    unfold docket_copyTerms.f
    rw [cloneInts_some hs (by have := ctE_len h; omega)]
    rfl
  · rw [newV_err h]
    exact ev_else h (Ev.now _)
theorem refNew_some (day ans app : Int) (hs : List Int) : insolvencyref33_NewDocket.f day ans app hs = some (newV day ans app hs) := by
  unfold insolvencyref33_NewDocket.f
  rw [refCheckTerms_some, Option.bind_some]
  by_cases h : ctE day ans app hs.length = 0
  · rw [newV_ok h, if_pos h, Option.bind_some, if_pos (by have := ctE_len h; simp; omega), List.nil_append]
  · rw [newV_err h, if_neg h]
theorem ints_loop (l : List Int) (hl : l.length < 4611686018427387904) : ∀ (n i : Nat), i ≤ l.length → l.length - i = n → Ev (fun k => insolvencyref1_SameInts.l0 k l l (i : Int)) true
  | 0, i, h1, h2 => by
    refine Ev.step (fun k => rfl) (ev_else ?_ (Ev.now _))
    omega
  | n + 1, i, h1, h2 => by
    refine Ev.step (fun k => rfl) (ev_if (by omega) (ev_if (by omega) (ev_if (by omega) (ev_if rfl ?_))))
    have e : wrap64 ((i : Int) + 1) = ((i + 1 : Nat) : Int) := by rw [w64 _ (by omega) (by omega)]; omega
    rw [e]
    exact ints_loop l hl n (i + 1) (by omega) (by omega)
theorem sameInts_ev (l : List Int) (hl : l.length < 4611686018427387904) : Ev (fun k => insolvencyref1_SameInts.f k l l) true :=
  ev_if rfl (ints_loop l hl l.length 0 (Nat.zero_le _) (by omega))
theorem dock_loop (d a p : Int) (hs : List Int) (l : List S50) (hl : l.length < 4611686018427387904) : ∀ (n i : Nat), i ≤ l.length → l.length - i = n → Ev (fun k => insolvencyref33_SameDocket.l0 k (i : Int) d a p hs l d a p hs l) true
  | 0, i, h1, h2 => by
    refine Ev.step (fun k => rfl) (ev_else ?_ (Ev.now _))
    omega
  | n + 1, i, h1, h2 => by
    refine Ev.step (fun k => rfl) (ev_if (by omega) (ev_if (by omega) (ev_if (by omega) (ev_else (by simp) ?_))))
    have e : wrap64 ((i : Int) + 1) = ((i + 1 : Nat) : Int) := by rw [w64 _ (by omega) (by omega)]; omega
    rw [e]
    exact dock_loop d a p hs l hl n (i + 1) (by omega) (by omega)
theorem sameDocket_ev (d a p : Int) (hs : List Int) (l : List S50) (hh : hs.length < 4611686018427387904) (hl : l.length < 4611686018427387904) : Ev (fun k => insolvencyref33_SameDocket.f k d a p hs l d a p hs l) true := by
  unfold insolvencyref33_SameDocket.f
  refine ev_if rfl (ev_if rfl (ev_if rfl (Ev.bind (sameInts_ev hs hh) (ev_if rfl ?_))))
  refine Ev.step (fun k => rfl) (ev_else (by simp) ?_)
  exact dock_loop d a p hs l hl l.length 0 (Nat.zero_le _) (by omega)
end Go.Proofs.Ytpfiecjacpbhkaa.D

namespace Go.Proofs.Ytpfiecjacpbhkaa.D
open Go.RowKit Go.Proofs.YtpfiecjacpbhkaaW.PrintWords Go.Proofs.YtpfiecjacpbhkaaW.PrintLast Go.Proofs.YtpfiecjacpbhkaaW.PrintMore Hx
set_option linter.unusedVariables false
set_option linter.unusedSimpArgs false
def isRun (m : S50) : Bool := m.f1 == 2 || m.f1 == 4
def soundP (day : Int) (m : S50) : Prop :=
  (1 ≤ m.f1 ∧ m.f1 ≤ 6 ∧ 0 ≤ m.f3 ∧ m.f3 < 4) ∧ ((m.f1 = 2 ∨ m.f1 = 4) ∧ day ≤ m.f2 ∧ m.f2 ≤ 1048576 ∨ ¬ (m.f1 = 2 ∨ m.f1 = 4) ∧ m.f2 = 0) ∧ (m.f1 ≤ 3 → m.f3 = 0) ∧ (m.f4 = true → m.f1 = 6 ∧ m.f3 = 0)
instance (day : Int) (m : S50) : Decidable (soundP day m) := by unfold soundP; infer_instance
theorem sound_ev (day : Int) (m : S50) : Ev (fun k => docket_sound.f k m.f0 m.f1 m.f2 m.f3 m.f4 day) (decide (soundP day m)) := by
  refine ⟨3, fun k hk => ?_⟩
  obtain ⟨k, rfl⟩ : ∃ m, k = m + 3 := ⟨k - 3, by omega⟩
  obtain ⟨f0, f1, f2, f3, f4⟩ := m
  show docket_sound.f (k + 3) f0 f1 f2 f3 f4 day = some (decide (soundP day ⟨f0, f1, f2, f3, f4⟩))
  by_cases hs : 1 ≤ f1 ∧ f1 ≤ 6 ∧ 0 ≤ f3 ∧ f3 < 4
  · have e1 : f1 = 1 ∨ f1 = 2 ∨ f1 = 3 ∨ f1 = 4 ∨ f1 = 5 ∨ f1 = 6 := by omega
    have a1 : ¬ f3 < 0 := by omega
    have a2 : ¬ 4 ≤ f3 := by omega
    have a3 : 0 ≤ f3 := by omega
    have a4 : f3 < 4 := by omega
    by_cases b1 : f2 < day <;> by_cases b2 : 1048576 < f2 <;> by_cases b3 : f2 = 0 <;> by_cases b4 : f3 = 0 <;> cases f4 <;> rcases e1 with rfl | rfl | rfl | rfl | rfl | rfl
    all_goals try subst b3
    all_goals try subst b4
    all_goals first | (simp [docket_sound.f, docket_sound.j0, docket_sound.j1, docket_sound.j2, docket_running.f, soundP, a1, a2, a3, a4, *]; done) | (simp [docket_sound.f, docket_sound.j0, docket_sound.j1, docket_sound.j2, docket_running.f, soundP, a1, a2, a3, a4, *]; omega)
  · have hs2 : ¬ soundP day ⟨f0, f1, f2, f3, f4⟩ := fun h => hs h.1
    rw [decide_eq_false hs2]
    have key : ∀ b, docket_sound.j0 (k + 3) day b f0 f1 f2 f3 f4 = some false := by
      intro b
      simp only [docket_sound.j0]
      by_cases h1 : f1 < 1
      · rw [if_pos h1]
        rfl
      · rw [if_neg h1]
        by_cases h2 : f1 > 6
        · rw [if_pos h2]
          rfl
        · rw [if_neg h2]
          by_cases h3 : f3 < 0
          · rw [if_pos h3]
            rfl
          · rw [if_neg h3, decide_eq_true (show f3 ≥ 4 by omega)]
            rfl
    unfold docket_sound.f
    rw [key, key]
    simp
theorem fnd_any (x : Int) : ∀ (l : List S50) (i : Nat), (0 ≤ fnd x l i) = (l.any (fun m => m.f0 == x) = true)
  | [], i => by simp [fnd]
  | y :: r, i => by
    unfold fnd
    by_cases h : y.f0 = x
    · rw [if_pos h]
      simp [h]
    · rw [if_neg h, fnd_any x r (i + 1)]
      simp [h]
def chkL (day : Int) : List S50 → List S50 → Int
  | _, [] => 0
  | pre, m :: r => if m.f0 < 0 then 1 else if pre.any (fun x => x.f0 == m.f0) = true then 12 else if soundP day m then chkL day (pre ++ [m]) r else 1
def chkV (day ans app : Int) (hs : List Int) (ms : List S50) : Int := if ctE day ans app hs.length = 0 then if 32 < ms.length then 2 else chkL day [] ms else ctE day ans app hs.length
theorem rdM {ms : List S50} {i : Nat} (h : i < ms.length) : rd_T50 ms (i : Int) = ms[i] := by
  unfold rd_T50
  rw [Int.toNat_natCast, List.getD_eq_getElem?_getD, List.getElem?_eq_getElem h]
  rfl
theorem find_some (l : List S50) (x : Int) (h : l.length < 4611686018427387904) : docket_find.f l x = some (fnd x l 0) := by unfold docket_find.f; rw [if_pos h]
theorem wn (i n : Nat) (h : i < n) (hn : n < 4611686018427387904) : wrap64 ((i : Int) + 1) = ((i + 1 : Nat) : Int) := by rw [w64 _ (by omega) (by omega)]; omega
theorem check_loop (day ans app : Int) (hs : List Int) (ms : List S50) (hl : ms.length < 4611686018427387904) : ∀ (n i : Nat), i ≤ ms.length → ms.length - i = n →
    Ev (fun k => docket_Check.l0 k ms (ms.length : Int) (i : Int) day ans app hs ms) (chkL day (ms.take i) (ms.drop i))
  | 0, i, h1, h2 => by
    obtain rfl : i = ms.length := by omega
    rw [List.drop_length, chkL]
    exact Ev.step (fun k => rfl) (ev_else (by omega) (Ev.now _))
  | n + 1, i, h1, h2 => by
    have hi : i < ms.length := by omega
    rw [List.drop_eq_getElem_cons hi, chkL]
    refine Ev.step (fun k => rfl) (ev_if (by omega) (ev_if (by omega) (ev_if (by omega) ?_)))
    rw [rdM hi, Int.toNat_natCast]
    by_cases h3 : ms[i].f0 < 0
    · rw [if_pos h3]
      exact ev_if h3 (Ev.now _)
    rw [if_neg h3]
    refine ev_else h3 (ev_if (by omega) (ev_then (find_some _ _ (by rw [List.length_take]; omega)) ?_))
    by_cases h4 : (ms.take i).any (fun x => x.f0 == ms[i].f0) = true
    · rw [if_pos h4]
      exact ev_if (by rw [ge_iff_le, fnd_any]; exact h4) (Ev.now _)
    rw [if_neg h4]
    refine ev_else (by rw [ge_iff_le, fnd_any]; exact h4) (Ev.bind (sound_ev day ms[i]) ?_)
    by_cases h5 : soundP day ms[i]
    · rw [if_pos h5]
      refine ev_if (decide_eq_true h5) ?_
      rw [wn i _ hi hl, List.take_append_getElem hi]
      exact check_loop day ans app hs ms hl n (i + 1) (by omega) (by omega)
    · rw [if_neg h5]
      exact ev_else (by simpa using h5) (Ev.now _)
theorem check_ev (day ans app : Int) (hs : List Int) (ms : List S50) : Ev (fun k => docket_Check.f k day ans app hs ms) (chkV day ans app hs ms) := by
  unfold docket_Check.f chkV
  refine Ev.bind (checkTerms_ev day ans app hs) ?_
  by_cases h : ctE day ans app hs.length = 0
  · rw [if_pos h]
    refine ev_if h ?_
    by_cases h2 : 32 < ms.length
    · rw [if_pos h2]
      exact ev_if (by omega) (Ev.now _)
    · rw [if_neg h2]
      exact ev_else (by omega) (check_loop day ans app hs ms (by omega) ms.length 0 (Nat.zero_le _) (by omega))
  · rw [if_neg h]
    exact ev_else h (Ev.now _)
theorem chkL_ok (day : Int) : ∀ (r pre : List S50), chkL day pre r = 0 ↔ ((∀ m ∈ r, 0 ≤ m.f0 ∧ soundP day m) ∧ (r.map (·.f0)).Nodup ∧ ∀ m ∈ r, ∀ x ∈ pre, x.f0 ≠ m.f0)
  | [], pre => by simp [chkL]
  | m :: r, pre => by
    unfold chkL
    by_cases h1 : m.f0 < 0
    · rw [if_pos h1]
      constructor
      · intro h; cases h
      · rintro ⟨h, _, _⟩
        have := h m (by simp)
        omega
    rw [if_neg h1]
    by_cases h2 : pre.any (fun x => x.f0 == m.f0) = true
    · rw [if_pos h2]
      constructor
      · intro h; cases h
      · rintro ⟨_, _, h⟩
        obtain ⟨x, hx, he⟩ := List.any_eq_true.1 h2
        exact absurd (by simpa using he) (h m (by simp) x hx)
    rw [if_neg h2]
    have hp : ∀ x ∈ pre, x.f0 ≠ m.f0 := fun x hx he => h2 (List.any_eq_true.2 ⟨x, hx, by simpa using he⟩)
    by_cases h3 : soundP day m
    · rw [if_pos h3, chkL_ok day r (pre ++ [m])]
      constructor
      · rintro ⟨a, b, c⟩
        refine ⟨fun x hx => ?_, ?_, fun x hx y hy => ?_⟩
        · rcases List.mem_cons.1 hx with rfl | hx
          · exact ⟨by omega, h3⟩
          · exact a x hx
        · rw [List.map_cons, List.nodup_cons]
          refine ⟨fun hm => ?_, b⟩
          obtain ⟨x, hx, he⟩ := List.mem_map.1 hm
          exact c x hx m (by simp) he.symm
        · rcases List.mem_cons.1 hx with rfl | hx
          · exact hp y hy
          · exact c x hx y (by simp [hy])
      · rintro ⟨a, b, c⟩
        rw [List.map_cons, List.nodup_cons] at b
        refine ⟨fun x hx => a x (by simp [hx]), b.2, fun x hx y hy => ?_⟩
        rcases List.mem_append.1 hy with hy | hy
        · exact c x (by simp [hx]) y hy
        · obtain rfl : y = m := by simpa using hy
          exact fun he => b.1 (List.mem_map.2 ⟨x, hx, he.symm⟩)
    · rw [if_neg h3]
      constructor
      · intro h; cases h
      · rintro ⟨a, _, _⟩
        exact absurd (a m (by simp)).2 h3
def lapses (day : Int) (m : S50) : Prop := (m.f1 = 2 ∨ m.f1 = 4) ∧ m.f2 < day
instance (day : Int) (m : S50) : Decidable (lapses day m) := by unfold lapses; infer_instance
def lapM (day : Int) (m : S50) : S50 := if lapses day m then ⟨m.f0, 6, 0, m.f3, m.f1 == 2⟩ else m
def lapR (day : Int) (m : S50) : Option S52 := if lapses day m then some ⟨m.f0, wrap64 (m.f2 + 1), m.f3⟩ else none
theorem running_some (a b c d : Int) (e : Bool) : docket_running.f a b c d e = some (b == 2 || b == 4) := by
  unfold docket_running.f
  by_cases h : b = 2
  · simp [h]
  · rw [if_neg h]
    simp [h]
theorem rd_mid (done r : List S50) (m : S50) : rd_T50 (done ++ m :: r) (done.length : Int) = m := by
  rw [rdM (by simp)]
  simp
theorem set_mid (done r : List S50) (m m' : S50) : (done ++ m :: r).set (done.length : Int).toNat m' = done ++ m' :: r := by
  rw [Int.toNat_natCast, List.set_append_right _ _ (Nat.le_refl _)]
  simp
theorem adv_loop (day ans app : Int) (hs : List Int) : ∀ (rest done : List S50) (acc : List S52) (n : Int), n = ((done ++ rest).length : Int) → (done ++ rest).length < 1000000 → (acc ++ rest.filterMap (lapR day)).length ≤ 12 →
    Ev (fun k => docket_advance.l0 k day acc n (done.length : Int) day ans app hs (done ++ rest)) (day, ans, app, hs, done ++ rest.map (lapM day), sortR (acc ++ rest.filterMap (lapR day)))
  | [], done, acc, n, hn, h1, h2 => by
    subst hn
    refine Ev.step (fun k => rfl) (ev_else (by simp) (ev_then (a := sortR acc) ?_ ?_))
    · unfold sortRulings.f
      rw [if_pos (by simpa using h2)]
    · simp only [List.filterMap_nil, List.append_nil, List.map_nil]
      exact Ev.now _
  | m :: r, done, acc, n, hn, h1, h2 => by
    subst hn
    have hlen : (done ++ m :: r).length = done.length + r.length + 1 := by simp; omega
    refine Ev.step (fun k => rfl) (ev_if (by rw [hlen]; omega) (ev_if (by omega) (ev_if (by rw [hlen]; omega) ?_)))
    rw [rd_mid]
    refine ev_then (running_some _ _ _ _ _) ?_
    have ew : wrap64 ((done.length : Int) + 1) = ((done.length + 1 : Nat) : Int) := wn _ _ (Nat.lt_succ_self _) (by omega)
    have stay : ¬ lapses day m → Ev (fun k => docket_advance.l0 k day acc ((done ++ m :: r).length : Int) (wrap64 ((done.length : Int) + 1)) day ans app hs (done ++ m :: r)) (day, ans, app, hs, done ++ (m :: r).map (lapM day), sortR (acc ++ (m :: r).filterMap (lapR day))) := by
      intro hn
      have ih := adv_loop day ans app hs r (done ++ [m]) acc ((done ++ m :: r).length : Int) (by simp) (by simpa using h1) (by
        have e : lapR day m = none := if_neg hn
        rw [List.filterMap_cons, e] at h2
        exact h2)
      have e1 : lapR day m = none := if_neg hn
      have e2 : lapM day m = m := if_neg hn
      rw [List.filterMap_cons, e1, List.map_cons, e2, ew]
      simpa using ih
    by_cases hr : m.f1 = 2 ∨ m.f1 = 4
    · refine ev_if (by simpa using hr) ?_
      by_cases hd : m.f2 ≥ day
      · exact ev_if hd (stay (fun h => by have := h.2; omega))
      · have hlap : lapses day m := ⟨hr, by omega⟩
        have e1 : lapR day m = some ⟨m.f0, wrap64 (m.f2 + 1), m.f3⟩ := if_pos hlap
        have e2 : lapM day m = ⟨m.f0, 6, 0, m.f3, m.f1 == 2⟩ := if_pos hlap
        rw [List.filterMap_cons, e1] at h2 ⊢
        rw [List.map_cons, e2]
        refine ev_else hd (ev_if (by simp at h2; omega) (ev_then rfl (ev_then rfl ?_)))
        rw [set_mid, rd_mid, set_mid, rd_mid, set_mid, ew]
        have ih := adv_loop day ans app hs r (done ++ [⟨m.f0, 6, 0, m.f3, m.f1 == 2⟩]) (acc ++ [⟨m.f0, wrap64 (m.f2 + 1), m.f3⟩]) ((done ++ m :: r).length : Int) (by simp) (by simpa using h1) (by simpa using h2)
        simpa using ih
    · exact ev_else (by simpa using hr) (stay (fun h => hr h.1))
theorem cloneMatters_some (l : List S50) (h : l.length < 1000000) : cloneMatters.f l = some l := by
  unfold cloneMatters.f
  rw [Option.bind_some, if_pos (by simp; omega), List.nil_append]
theorem advance_ev (d day ans app : Int) (hs : List Int) (ms : List S50) (h1 : hs.length < 1000000) (h2 : ms.length < 1000000) (h3 : (ms.filterMap (lapR day)).length ≤ 12) :
    Ev (fun k => docket_advance.f k d ans app hs ms day) (day, ans, app, hs, ms.map (lapM day), sortR (ms.filterMap (lapR day))) := by
  unfold docket_advance.f
  refine ev_then (a := (ans, app, hs)) (by unfold docket_copyTerms.f; rw [cloneInts_some hs (by omega)]; rfl) (ev_then (cloneMatters_some ms h2) ?_)
  exact adv_loop day ans app hs ms [] [] (ms.length : Int) (by simp) (by simpa using h2) (by simpa using h3)
def advV (d ans app : Int) (hs : List Int) (ms : List S50) (day : Int) : Dk :=
  if chkV d ans app hs ms = 0 then if day < 0 ∨ 1048576 < day then dkErr 1 else if day < d then dkErr 15 else (day, ans, app, hs, ms.map (lapM day), sortR (ms.filterMap (lapR day)), 0) else dkErr (chkV d ans app hs ms)
theorem chkV_ok {d ans app : Int} {hs : List Int} {ms : List S50} (h : chkV d ans app hs ms = 0) : ctE d ans app hs.length = 0 ∧ hs.length ≤ 1000 ∧ ms.length ≤ 32 ∧ chkL d [] ms = 0 := by
  unfold chkV at h
  by_cases h1 : ctE d ans app hs.length = 0
  · rw [if_pos h1] at h
    by_cases h2 : 32 < ms.length
    · rw [if_pos h2] at h; cases h
    · rw [if_neg h2] at h
      exact ⟨h1, ctE_len h1, by omega, h⟩
  · rw [if_neg h1] at h
    exact absurd h h1
theorem advV_ev (d ans app : Int) (hs : List Int) (ms : List S50) (day : Int) (h : (ms.filterMap (lapR day)).length ≤ 12) : Ev (fun k => docket_Advance.f k d ans app hs ms day) (advV d ans app hs ms day) := by
  unfold docket_Advance.f
  refine Ev.bind (check_ev d ans app hs ms) ?_
  by_cases hc : chkV d ans app hs ms = 0
  · refine ev_if hc ?_
    obtain ⟨c1, c2, c3, c4⟩ := chkV_ok hc
    by_cases h1 : day < 0
    · have e : advV d ans app hs ms day = dkErr 1 := by unfold advV; rw [if_pos hc, if_pos (.inl h1)]
      rw [e]
      exact ev_if h1 ⟨1, fun k hk => by obtain ⟨k, rfl⟩ : ∃ m, k = m + 1 := ⟨k - 1, by omega⟩; rfl⟩
    · refine ev_else h1 ?_
      by_cases h2 : 1048576 < day
      · have e : advV d ans app hs ms day = dkErr 1 := by unfold advV; rw [if_pos hc, if_pos (.inr h2)]
        rw [e]
        exact Ev.step (fun k => rfl) (ev_if (by simpa using h2) (Ev.now _))
      · refine Ev.step (fun k => rfl) (ev_else (by simpa using h2) ?_)
        by_cases h3 : day < d
        · have e : advV d ans app hs ms day = dkErr 15 := by unfold advV; rw [if_pos hc, if_neg (by omega), if_pos h3]
          rw [e]
          exact ev_if h3 (Ev.now _)
        · have e : advV d ans app hs ms day = (day, ans, app, hs, ms.map (lapM day), sortR (ms.filterMap (lapR day)), 0) := by unfold advV; rw [if_pos hc, if_neg (by omega), if_neg h3]
          rw [e]
          exact ev_else h3 (Ev.bind (advance_ev d day ans app hs ms (by omega) (by omega) h) (Ev.now _))
  · have e : advV d ans app hs ms day = dkErr (chkV d ans app hs ms) := by unfold advV; rw [if_neg hc]
    rw [e]
    exact ev_else hc (Ev.now _)
end Go.Proofs.Ytpfiecjacpbhkaa.D

namespace Go.Proofs.Ytpfiecjacpbhkaa.D
open Go.RowKit Go.Proofs.YtpfiecjacpbhkaaW.PrintWords Go.Proofs.YtpfiecjacpbhkaaW.PrintLast Go.Proofs.YtpfiecjacpbhkaaW.PrintMore Hx Hm Go.Shelf Go.Sort
set_option linter.unusedVariables false
set_option linter.unusedSimpArgs false
def chgV (ad : Int × Int) (day ans app : Int) (hs : List Int) (ms : List S50) (rl : List S52) (kind at_ id opt : Int) : Dk :=
  if ad.2 ≠ 0 then dkErr ad.2 else (day, ans, app, hs, ms.set (fnd id ms 0).toNat (chgM (rd_T50 ms (fnd id ms 0)) kind ad.1 opt), if kind = 6 then rl ++ [⟨id, at_, opt⟩] else rl, 0)
def tailV (ad : Int × Int) (day ans app : Int) (hs : List Int) (ms : List S50) (rl : List S52) (kind at_ id opt : Int) : Dk :=
  if kind < 1 ∨ 6 < kind then dkErr 1
  else if kind = 1 then if (openF ms id).2 = 0 then (day, ans, app, hs, (openF ms id).1, rl, 0) else dkErr (openF ms id).2
  else if fnd id ms 0 < 0 then dkErr 11
  else if (rd_T50 ms (fnd id ms 0)).f1 ≠ kind - 1 then dkErr 13
  else if (kind = 4 ∨ kind = 6) ∧ (opt < 0 ∨ 4 ≤ opt) then dkErr 41
  else chgV (if kind = 2 ∨ kind = 4 then ad else (0, 0)) day ans app hs ms rl kind at_ id opt
def fileV (ad : Int × Int) (d ans app : Int) (hs : List Int) (ms : List S50) (kind at_ id opt : Int) : Dk :=
  if (advV d ans app hs ms at_).2.2.2.2.2.2 = 0 then tailV ad at_ ans app hs (ms.map (lapM at_)) (sortR (ms.filterMap (lapR at_))) kind at_ id opt else dkErr (advV d ans app hs ms at_).2.2.2.2.2.2
theorem ev_ite {α : Type} {c : Prop} [Decidable c] {g f : Nat → Option α} {r1 r2 : α} (h1 : c → Ev g r1) (h2 : ¬ c → Ev f r2) : Ev (fun n => if c then g n else f n) (if c then r1 else r2) := by
  by_cases h : c
  · rw [if_pos h]; exact ev_if h (h1 h)
  · rw [if_neg h]; exact ev_else h (h2 h)
theorem tail_ev (ad : Int × Int) (day ans app : Int) (hs : List Int) (ms : List S50) (rl : List S52) (kind at_ id opt : Int) (h1 : ms.length < 1000000) (h2 : rl.length < 1000000)
    (ha : Ev (fun k => F.calendar_Add.f k at_ (if kind = 2 then ans else app) hs) ad) : Ev (fun k => docket_File.tail k day ans app hs ms rl kind at_ id opt) (tailV ad day ans app hs ms rl kind at_ id opt) := by
  unfold docket_File.tail tailV
  refine ev_ite (fun _ => Ev.now _) (fun _ => ev_if (by omega) (ev_ite (fun _ => ev_ite (fun _ => Ev.now _) (fun _ => Ev.now _)) (fun _ => ev_ite (fun _ => Ev.now _) (fun _ => ev_ite (fun _ => Ev.now _) (fun _ => ev_ite (fun _ => Ev.now _) (fun _ => ?_))))))
  refine Ev.bind (a := if kind = 2 ∨ kind = 4 then ad else (0, 0)) (ev_ite (fun _ => ha) (fun _ => Ev.now _)) ?_
  generalize (if kind = 2 ∨ kind = 4 then ad else (0, 0)) = b
  unfold chgV
  refine ev_ite (fun _ => Ev.now _) (fun _ => ?_)
  by_cases c8 : kind = 6
  · simp only [if_pos c8]
    exact ev_if (by omega) (Ev.now _)
  · simp only [if_neg c8]
    exact Ev.now _
theorem advV_cases (d ans app : Int) (hs : List Int) (ms : List S50) (day : Int) : (advV d ans app hs ms day).2.2.2.2.2.2 = 0 ∧ advV d ans app hs ms day = (day, ans, app, hs, ms.map (lapM day), sortR (ms.filterMap (lapR day)), 0) ∧ chkV d ans app hs ms = 0 ∧ 0 ≤ day ∧ day ≤ 1048576 ∧ d ≤ day ∨
    (advV d ans app hs ms day).2.2.2.2.2.2 ≠ 0 ∧ advV d ans app hs ms day = dkErr (advV d ans app hs ms day).2.2.2.2.2.2 := by
  unfold advV
  by_cases c1 : chkV d ans app hs ms = 0
  · rw [if_pos c1]
    by_cases c2 : day < 0 ∨ 1048576 < day
    · rw [if_pos c2]; exact .inr ⟨by decide, rfl⟩
    · rw [if_neg c2]
      by_cases c3 : day < d
      · rw [if_pos c3]; exact .inr ⟨by decide, rfl⟩
      · rw [if_neg c3]; exact .inl ⟨rfl, rfl, c1, by omega, by omega, by omega⟩
  · rw [if_neg c1]; exact .inr ⟨c1, rfl⟩
theorem file_ev (ad : Int × Int) (d ans app : Int) (hs : List Int) (ms : List S50) (kind at_ id opt : Int) (h : ms.length ≤ 12) (ha : Ev (fun k => F.calendar_Add.f k at_ (if kind = 2 then ans else app) hs) ad) :
    Ev (fun k => docket_File.f k d ans app hs ms kind at_ id opt) (fileV ad d ans app hs ms kind at_ id opt) := by
  have hl : (ms.filterMap (lapR at_)).length ≤ 12 := Nat.le_trans (List.length_filterMap_le _ _) h
  unfold docket_File.f fileV
  refine Ev.bind (advV_ev d ans app hs ms at_ hl) ?_
  rcases advV_cases d ans app hs ms at_ with ⟨e0, e1, -⟩ | ⟨e0, e1⟩
  · rw [if_pos e0]
    refine ev_if e0 ?_
    rw [e1]
    exact tail_ev ad at_ ans app hs _ _ kind at_ id opt (by simp; omega) (by rw [ins_size]; omega) ha
  · rw [if_neg e0]
    exact ev_else e0 (Ev.now _)
def rKey (r : S52) : Int × Int := (r.f0, r.f2)
def mKey (m : S50) : Int × Int := (m.f0, m.f3)
def isFin (m : S50) : Bool := m.f1 == 6
structure Inv (d ans app : Int) (hs : List Int) (ms : List S50) (all : List S52) : Prop where
  ct : ctE d ans app hs.length = 0
  ok : ∀ m ∈ ms, 0 ≤ m.f0 ∧ m.f0 < 4 ∧ soundP d m
  nd : (ms.map (·.f0)).Nodup
  pm : (all.map rKey).Perm ((ms.filter isFin).map mKey)
  rd : ∀ r ∈ all, r.f1 ≤ d
theorem four (l : List Int) (n : Nat) (h : l.Nodup) (hb : ∀ x ∈ l, 0 ≤ x ∧ x < (n : Int)) : l.length ≤ n := by
  induction n generalizing l with
  | zero =>
    cases l with
    | nil => simp
    | cons a l =>
      have := hb a (by simp)
      omega
  | succ n ih =>
    have h1 : (l.erase (n : Int)).length ≤ n := by
      refine ih _ (h.erase _) (fun x hx => ?_)
      have h2 := hb x (List.mem_of_mem_erase hx)
      have h3 : x ≠ (n : Int) := fun e => by subst e; exact (List.Nodup.not_mem_erase h) hx
      omega
    have h4 := List.length_erase_le (a := (n : Int)) (l := l)
    have h5 : l.length ≤ (l.erase (n : Int)).length + 1 := by
      rw [List.length_erase]
      split <;> omega
    omega
theorem Inv.len {d ans app : Int} {hs : List Int} {ms : List S50} {all : List S52} (h : Inv d ans app hs ms all) : ms.length ≤ 4 := by
  have := four (ms.map (·.f0)) 4 h.nd (fun x hx => by
    obtain ⟨m, hm, rfl⟩ := List.mem_map.1 hx
    have := h.ok m hm
    exact ⟨this.1, this.2.1⟩)
  simpa using this
theorem Inv.chk {d ans app : Int} {hs : List Int} {ms : List S50} {all : List S52} (h : Inv d ans app hs ms all) : chkV d ans app hs ms = 0 := by
  unfold chkV
  have hl := h.len
  rw [if_pos h.ct, if_neg (by omega), chkL_ok]
  exact ⟨fun m hm => ⟨(h.ok m hm).1, (h.ok m hm).2.2⟩, h.nd, fun m hm x hx => by cases hx⟩
theorem Inv.all_len {d ans app : Int} {hs : List Int} {ms : List S50} {all : List S52} (h : Inv d ans app hs ms all) : all.length ≤ 4 := by
  have h1 := h.pm.length_eq
  rw [List.length_map, List.length_map] at h1
  have h2 := List.length_filter_le isFin ms
  have := h.len
  omega
theorem sort_perm (l : List S52) : (sortR l).Perm l := by
  have h := (Sort.insertionSort_holds (lt := ltOf rulCmp) rul_swo l.toArray 0 l.length (Nat.zero_le _) (by simp)).1
  unfold sortR
  have h1 := h.2.2
  have h2 : (Sort.insertionSort (ltOf rulCmp) l.toArray 0 l.length).size = l.length := by simpa using h.1
  generalize Sort.insertionSort (ltOf rulCmp) l.toArray 0 l.length = S at *
  have h3 : S.extract 0 l.length = S := by rw [← h2]; exact Array.extract_size
  rw [h3] at h1
  simpa using h1
theorem lap_perm (day : Int) : ∀ ms : List S50, (((ms.filter isFin).map mKey) ++ ((ms.filterMap (lapR day)).map rKey)).Perm (((ms.map (lapM day)).filter isFin).map mKey)
  | [] => by simp
  | m :: r => by
    have ih := lap_perm day r
    by_cases h : lapses day m
    · have e1 : lapR day m = some ⟨m.f0, wrap64 (m.f2 + 1), m.f3⟩ := if_pos h
      have e2 : lapM day m = ⟨m.f0, 6, 0, m.f3, m.f1 == 2⟩ := if_pos h
      have e3 : isFin m = false := by unfold isFin; have := h.1; simp; omega
      have g1 : (m :: r).filter isFin = r.filter isFin := List.filter_cons_of_neg (by simp [e3])
      have g2 : (m :: r).filterMap (lapR day) = ⟨m.f0, wrap64 (m.f2 + 1), m.f3⟩ :: r.filterMap (lapR day) := by rw [List.filterMap_cons, e1]
      have g3 : ((m :: r).map (lapM day)).filter isFin = ⟨m.f0, 6, 0, m.f3, m.f1 == 2⟩ :: (r.map (lapM day)).filter isFin := by rw [List.map_cons, e2, List.filter_cons_of_pos (by rfl)]
      rw [g1, g2, g3, List.map_cons, List.map_cons]
      refine List.perm_middle.trans ?_
      exact List.Perm.cons _ ih
    · have e1 : lapR day m = none := if_neg h
      have e2 : lapM day m = m := if_neg h
      have g2 : (m :: r).filterMap (lapR day) = r.filterMap (lapR day) := by rw [List.filterMap_cons, e1]
      have g4 : (m :: r).map (lapM day) = m :: r.map (lapM day) := by rw [List.map_cons, e2]
      rw [g2, g4]
      by_cases hf : isFin m = true
      · rw [List.filter_cons_of_pos hf, List.filter_cons_of_pos hf, List.map_cons, List.map_cons, List.cons_append]
        exact List.Perm.cons _ ih
      · rw [List.filter_cons_of_neg hf, List.filter_cons_of_neg hf]
        exact ih
theorem lapM_id (day : Int) (m : S50) : (lapM day m).f0 = m.f0 := by unfold lapM; split <;> rfl
theorem lap_sound {d day : Int} {m : S50} (hd : d ≤ day) (h : soundP d m) : soundP day (lapM day m) := by
  unfold lapM
  by_cases hl : lapses day m
  · rw [if_pos hl]
    obtain ⟨h1, h2, h3, h4⟩ := h
    refine ⟨⟨(by decide : (1 : Int) ≤ 6), (by decide : (6 : Int) ≤ 6), h1.2.2.1, h1.2.2.2⟩, .inr ⟨(by decide : ¬ ((6 : Int) = 2 ∨ (6 : Int) = 4)), rfl⟩, fun h => absurd h (by decide : ¬ (6 : Int) ≤ 3), fun hb => ⟨rfl, ?_⟩⟩
    have : m.f1 = 2 := by simpa using hb
    exact h3 (by omega)
  · rw [if_neg hl]
    obtain ⟨h1, h2, h3, h4⟩ := h
    refine ⟨h1, ?_, h3, h4⟩
    unfold lapses at hl
    omega
theorem Inv.adv {d ans app : Int} {hs : List Int} {ms : List S50} {all : List S52} (h : Inv d ans app hs ms all) (day : Int) (h1 : d ≤ day) (h2 : day ≤ 1048576) :
    Inv day ans app hs (ms.map (lapM day)) (all ++ sortR (ms.filterMap (lapR day))) := by
  have hd : 0 ≤ d := by
    have := h.ct
    unfold ctE at this
    split at this
    · cases this
    · omega
  refine ⟨?_, ?_, ?_, ?_, ?_⟩
  · have := h.ct
    unfold ctE at this ⊢
    split at this
    · cases this
    · rw [if_neg (by omega)]; exact this
  · intro x hx
    obtain ⟨m, hm, rfl⟩ := List.mem_map.1 hx
    have := h.ok m hm
    rw [lapM_id]
    exact ⟨this.1, this.2.1, lap_sound h1 this.2.2⟩
  · rw [List.map_map]
    have e : ((fun x : S50 => x.f0) ∘ lapM day) = (fun x => x.f0) := by funext m; exact lapM_id day m
    rw [e]
    exact h.nd
  · rw [List.map_append]
    refine (List.Perm.append h.pm ((sort_perm _).map rKey)).trans ?_
    exact lap_perm day ms
  · intro r hr
    rcases List.mem_append.1 hr with hr | hr
    · have := h.rd r hr; omega
    · have hr2 := (sort_perm _).mem_iff.1 hr
      obtain ⟨m, hm, he⟩ := List.mem_filterMap.1 hr2
      unfold lapR at he
      by_cases hl : lapses day m
      · rw [if_pos hl] at he
        obtain rfl := Option.some.inj he
        have h3 := (h.ok m hm).2.2.2.1
        have h4 := hl.1
        have h5 := hl.2
        show wrap64 (m.f2 + 1) ≤ day
        rw [w64 _ (by omega) (by omega)]
        omega
      · rw [if_neg hl] at he
        cases he
theorem Inv.new {ans app : Int} {hs : List Int} (h : ctE 0 ans app hs.length = 0) : Inv 0 ans app hs [] [] := ⟨h, (fun m hm => by cases hm), List.nodup_nil, List.Perm.refl _, (fun r hr => by cases hr)⟩
theorem fnd_split (x : Int) : ∀ (l : List S50) (i : Nat), 0 ≤ fnd x l i → ∃ A m B, l = A ++ m :: B ∧ fnd x l i = ((i + A.length : Nat) : Int) ∧ m.f0 = x
  | [], i, h => by simp [fnd] at h
  | y :: r, i, h => by
    unfold fnd at h ⊢
    by_cases he : y.f0 = x
    · rw [if_pos he]
      exact ⟨[], y, r, rfl, by simp, he⟩
    · rw [if_neg he] at h ⊢
      obtain ⟨A, m, B, rfl, h2, h3⟩ := fnd_split x r (i + 1) h
      exact ⟨y :: A, m, B, rfl, by rw [h2]; simp; omega, h3⟩
theorem add_later {hs : List Int} {day n : Int} {ad : Int × Int} (h : IsAdd hs day n ad) (hn : 1 ≤ n) (h0 : ad.2 = 0) : day < ad.1 ∧ ad.1 ≤ 1048576 := by
  unfold IsAdd at h
  by_cases h1 : (hs.length : Int) > 1000
  · rw [if_pos h1] at h; subst h; cases h0
  rw [if_neg h1] at h
  by_cases h2 : isD day = true ∧ 0 ≤ n ∧ n ≤ 1048576
  · rw [if_pos h2] at h
    have hd : 0 ≤ day := by
      have := h2.1
      unfold isD at this
      simp at this
      exact this.1
    rcases h with ⟨d, hd2, rfl, h3, h4⟩ | ⟨rfl, _⟩
    · refine ⟨?_, by show (d : Int) ≤ _; omega⟩
      unfold mOf at h3
      rw [if_neg (by omega)] at h3
      have hlt : ¬ d + 1 ≤ day.toNat + 1 := fun hle => by have := cnt_mono hs hle; omega
      show day < (d : Int)
      omega
    · cases h0
  · rw [if_neg h2] at h; subst h; cases h0
theorem chg_sound {day : Int} {m : S50} {kind due opt : Int} (h : soundP day m) (hk : 2 ≤ kind ∧ kind ≤ 6) (hst : m.f1 = kind - 1) (ho : ¬ ((kind = 4 ∨ kind = 6) ∧ (opt < 0 ∨ 4 ≤ opt)))
    (hdue : (kind = 2 ∨ kind = 4) ∧ day < due ∧ due ≤ 1048576 ∨ ¬ (kind = 2 ∨ kind = 4) ∧ due = 0) : soundP day (chgM m kind due opt) := by
  obtain ⟨h1, h2, h3, h4⟩ := h
  have hf : ¬ m.f4 = true := fun hb => by have := (h4 hb).1; omega
  unfold chgM
  by_cases hk46 : kind = 4 ∨ kind = 6
  · simp only [if_pos hk46]
    refine ⟨⟨?_, ?_, ?_, ?_⟩, ?_, ?_, fun hb => absurd hb hf⟩ <;> show _ <;> dsimp only <;> omega
  · simp only [if_neg hk46]
    refine ⟨⟨?_, ?_, ?_, ?_⟩, ?_, ?_, fun hb => absurd hb hf⟩ <;> show _ <;> dsimp only <;> omega
theorem Inv.tail {day ans app : Int} {hs : List Int} {ms : List S50} {all rl : List S52} (h : Inv day ans app hs ms (all ++ rl)) (ad : Int × Int) (kind id opt : Int) (hid : 0 ≤ id ∧ id < 4)
    (ha : IsAdd hs day (if kind = 2 then ans else app) ad) (he : (tailV ad day ans app hs ms rl kind day id opt).2.2.2.2.2.2 = 0) :
    ∃ ms2 rl2, tailV ad day ans app hs ms rl kind day id opt = (day, ans, app, hs, ms2, rl2, 0) ∧ Inv day ans app hs ms2 (all ++ rl2) := by
  have hct := h.ct
  have hans : 1 ≤ ans ∧ 1 ≤ app := by
    unfold ctE at hct
    split at hct
    · cases hct
    · split at hct
      · cases hct
      · split at hct
        · cases hct
        · omega
  unfold tailV at he ⊢
  by_cases c1 : kind < 1 ∨ 6 < kind
  · rw [if_pos c1] at he; cases he
  rw [if_neg c1] at he ⊢
  by_cases c2 : kind = 1
  · rw [if_pos c2] at he ⊢
    by_cases c3 : (openF ms id).2 = 0
    · rw [if_pos c3]
      refine ⟨_, _, rfl, ?_⟩
      unfold openF at c3 ⊢
      rw [if_neg (by omega)] at c3 ⊢
      by_cases c4 : 0 ≤ fnd id ms 0
      · rw [if_pos c4] at c3; cases c3
      rw [if_neg c4] at c3 ⊢
      by_cases c5 : (ms.length : Int) ≥ 32
      · rw [if_pos c5] at c3; cases c3
      rw [if_neg c5]
      have hno : ∀ m ∈ ms, m.f0 ≠ id := fun m hm hi => c4 (by rw [fnd_any]; exact List.any_eq_true.2 ⟨m, hm, by simpa using hi⟩)
      refine ⟨hct, fun m hm => ?_, ?_, ?_, h.rd⟩
      · rcases List.mem_append.1 hm with hm | hm
        · exact h.ok m hm
        · obtain rfl : m = ⟨id, 1, 0, 0, false⟩ := by simpa using hm
          exact ⟨hid.1, hid.2, ⟨(by decide : (1 : Int) ≤ 1), (by decide : (1 : Int) ≤ 6), (by decide : (0 : Int) ≤ 0), (by decide : (0 : Int) < 4)⟩, .inr ⟨(by decide : ¬ ((1 : Int) = 2 ∨ (1 : Int) = 4)), rfl⟩, fun _ => rfl, fun hb => by cases hb⟩
      · simp only [List.map_append, List.map_cons, List.map_nil]
        rw [List.nodup_append]
        refine ⟨h.nd, by simp, fun x hx y hy => ?_⟩
        obtain ⟨m, hm, rfl⟩ := List.mem_map.1 hx
        obtain rfl : y = id := by simpa using hy
        exact hno m hm
      · have e : (ms ++ [(⟨id, 1, 0, 0, false⟩ : S50)]).filter isFin = ms.filter isFin := by
          rw [List.filter_append]
          have : [(⟨id, 1, 0, 0, false⟩ : S50)].filter isFin = [] := rfl
          rw [this, List.append_nil]
        show (_ : List (Int × Int)).Perm (((ms ++ [(⟨id, 1, 0, 0, false⟩ : S50)]).filter isFin).map mKey)
        rw [e]
        exact h.pm
    · rw [if_neg c3] at he
      exact absurd he c3
  rw [if_neg c2] at he ⊢
  by_cases c3 : fnd id ms 0 < 0
  · rw [if_pos c3] at he; cases he
  rw [if_neg c3] at he ⊢
  obtain ⟨A, m, B, hms, hf, hm0⟩ := fnd_split id ms 0 (by omega)
  rw [Nat.zero_add] at hf
  have hmem : m ∈ ms := by rw [hms]; simp
  have hrd : rd_T50 ms (fnd id ms 0) = m := by rw [hf, hms]; exact rd_mid A B m
  rw [hrd] at he ⊢
  by_cases c4 : m.f1 ≠ kind - 1
  · rw [if_pos c4] at he; cases he
  rw [if_neg c4] at he ⊢
  by_cases c5 : (kind = 4 ∨ kind = 6) ∧ (opt < 0 ∨ 4 ≤ opt)
  · rw [if_pos c5] at he; cases he
  rw [if_neg c5] at he ⊢
  have hb0 : (if kind = 2 ∨ kind = 4 then ad else (0, 0)).2 = 0 → (kind = 2 ∨ kind = 4) ∧ day < (if kind = 2 ∨ kind = 4 then ad else (0, 0)).1 ∧ (if kind = 2 ∨ kind = 4 then ad else (0, 0)).1 ≤ 1048576 ∨ ¬ (kind = 2 ∨ kind = 4) ∧ (if kind = 2 ∨ kind = 4 then ad else (0, 0)).1 = 0 := by
    by_cases c6 : kind = 2 ∨ kind = 4
    · rw [if_pos c6]
      intro h0
      exact .inl ⟨c6, add_later ha (by split <;> omega) h0⟩
    · rw [if_neg c6]
      intro _
      exact .inr ⟨c6, rfl⟩
  generalize (if kind = 2 ∨ kind = 4 then ad else (0, 0)) = b at *
  unfold chgV at he ⊢
  by_cases c7 : b.2 ≠ 0
  · rw [if_pos c7] at he; exact absurd he c7
  rw [if_neg c7]
  have hs := chg_sound (m := m) (kind := kind) (due := b.1) (opt := opt) (h.ok m hmem).2.2 (by omega) (by omega) c5 (hb0 (by omega))
  have hset : ms.set (fnd id ms 0).toNat (chgM m kind b.1 opt) = A ++ chgM m kind b.1 opt :: B := by rw [hf, hms]; exact set_mid A B m _
  rw [hrd, hset]
  have hok : ∀ x ∈ A ++ chgM m kind b.1 opt :: B, 0 ≤ x.f0 ∧ x.f0 < 4 ∧ soundP day x := by
    intro x hx
    rcases List.mem_append.1 hx with hx | hx
    · exact h.ok x (by rw [hms]; simp [hx])
    · rcases List.mem_cons.1 hx with rfl | hx
      · have := h.ok m hmem
        exact ⟨this.1, this.2.1, hs⟩
      · exact h.ok x (by rw [hms]; simp [hx])
  have hnd : ((A ++ chgM m kind b.1 opt :: B).map (·.f0)).Nodup := by
    have := h.nd
    rw [hms] at this
    simpa [chgM] using this
  have hmf : isFin m = false := by unfold isFin; simp; omega
  have hold : ms.filter isFin = A.filter isFin ++ B.filter isFin := by rw [hms, List.filter_append, List.filter_cons_of_neg (by simp [hmf])]
  refine ⟨_, _, rfl, ?_⟩
  by_cases c8 : kind = 6
  · rw [if_pos c8]
    refine ⟨hct, hok, hnd, ?_, fun r hr => ?_⟩
    · have e : (A ++ chgM m kind b.1 opt :: B).filter isFin = A.filter isFin ++ chgM m kind b.1 opt :: B.filter isFin := by
        rw [List.filter_append, List.filter_cons_of_pos (by unfold isFin chgM; simpa using c8)]
      have hk : mKey (chgM m kind b.1 opt) = rKey ⟨id, day, opt⟩ := by
        unfold mKey rKey chgM
        simp only [if_pos (Or.inr c8), hm0]
      have l1 : (all ++ (rl ++ [(⟨id, day, opt⟩ : S52)])).map rKey = (all ++ rl).map rKey ++ [rKey ⟨id, day, opt⟩] := by simp
      have l2 : (A.filter isFin ++ chgM m kind b.1 opt :: B.filter isFin).map mKey = (A.filter isFin).map mKey ++ mKey (chgM m kind b.1 opt) :: (B.filter isFin).map mKey := by simp
      rw [e, l1, l2, hk]
      have hp := h.pm
      rw [hold] at hp
      refine (List.Perm.append_right _ hp).trans ?_
      rw [List.map_append]
      rw [List.append_assoc]
      refine List.Perm.append_left _ ?_
      exact List.perm_append_singleton _ _
    · rw [← List.append_assoc] at hr
      rcases List.mem_append.1 hr with hr | hr
      · exact h.rd r hr
      · obtain rfl : r = ⟨id, day, opt⟩ := by simpa using hr
        exact Int.le_refl _
  · rw [if_neg c8]
    refine ⟨hct, hok, hnd, ?_, h.rd⟩
    have e : (A ++ chgM m kind b.1 opt :: B).filter isFin = A.filter isFin ++ B.filter isFin := by
      rw [List.filter_append, List.filter_cons_of_neg (by unfold isFin chgM; simpa using c8)]
    rw [e, ← hold]
    exact h.pm
theorem Inv.file {d ans app : Int} {hs : List Int} {ms : List S50} {all : List S52} (h : Inv d ans app hs ms all) (ad : Int × Int) (kind at_ id opt : Int) (hid : 0 ≤ id ∧ id < 4)
    (ha : IsAdd hs at_ (if kind = 2 then ans else app) ad) (he : (fileV ad d ans app hs ms kind at_ id opt).2.2.2.2.2.2 = 0) :
    ∃ ms2 rl2, fileV ad d ans app hs ms kind at_ id opt = (at_, ans, app, hs, ms2, rl2, 0) ∧ Inv at_ ans app hs ms2 (all ++ rl2) ∧ d ≤ at_ ∧ at_ ≤ 1048576 := by
  unfold fileV at he ⊢
  rcases advV_cases d ans app hs ms at_ with ⟨e0, e1, e2, e3, e4, e5⟩ | ⟨e0, e1⟩
  · rw [if_pos e0] at he ⊢
    obtain ⟨ms2, rl2, h1, h2⟩ := (h.adv at_ e5 e4).tail ad kind id opt hid ha he
    exact ⟨ms2, rl2, h1, h2, e5, e4⟩
  · rw [if_neg e0] at he
    exact absurd he e0
end Go.Proofs.Ytpfiecjacpbhkaa.D

namespace Go.Proofs.Ytpfiecjacpbhkaa.D
open Go.RowKit Go.Proofs.YtpfiecjacpbhkaaW.PrintWords Go.Proofs.YtpfiecjacpbhkaaW.PrintLast Go.Proofs.YtpfiecjacpbhkaaW.PrintMore Hx Hm
set_option linter.unusedVariables false
set_option linter.unusedSimpArgs false
theorem u8_of {a : Int} (h : (Lit.int .u8 a).wf = true) : 0 ≤ a ∧ a < 256 := by
  simp [Lit.wf, IntKind.min, IntKind.max, IntKind.signed, IntKind.bits] at h
  omega
theorem tm (a n : Int) (h : 0 ≤ a ∧ a < 256) (hn : 0 < n ∧ n < 1000) : wrap64 (Int.tmod a n) = a % n := by
  rw [tmod_pos _ _ h.1, w64 _ (by have := Int.emod_nonneg a (show n ≠ 0 by omega); omega) (by have := Int.emod_lt_of_pos a hn.1; omega)]
theorem terms_loop (l : List Int) (x y : Int) : ∀ (n i : Nat) (acc : List Int), i ≤ 6 → 6 - i = n → acc.length ≤ i → ∃ hs, Ev (fun k => insolvencylaw0_Terms.l0 k l (i : Int) x y acc) (x, y, hs) ∧ hs.length ≤ 6
  | 0, i, acc, h1, h2, h3 => by
    by_cases hl : (i : Int) < (l.length : Int)
    · exact ⟨acc, Ev.step (fun k => rfl) (ev_if hl (ev_else (by omega) (Ev.now _))), by omega⟩
    · exact ⟨acc, Ev.step (fun k => rfl) (ev_else hl (Ev.now _)), by omega⟩
  | n + 1, i, acc, h1, h2, h3 => by
    by_cases hl : (i : Int) < (l.length : Int)
    · obtain ⟨hs, h4, h5⟩ := terms_loop l x y n (i + 1) (acc ++ [wrap64 (Int.tmod (rd l (i : Int)) 60)]) (by omega) (by omega) (by simp; omega)
      refine ⟨hs, Ev.step (fun k => rfl) (ev_if hl (ev_if (by omega) (ev_if (by omega) (ev_if (by omega) ?_)))), h5⟩
      rw [w64 _ (by omega) (by omega), show (i : Int) + 1 = ((i + 1 : Nat) : Int) by omega]
      exact h4
    · exact ⟨acc, Ev.step (fun k => rfl) (ev_else hl (Ev.now _)), by omega⟩
theorem terms_ev (a b : Int) (l : List Int) (ha : 0 ≤ a ∧ a < 256) (hb : 0 ≤ b ∧ b < 256) : ∃ hs, Ev (fun k => insolvencylaw0_Terms.f k a b l) (1 + a % 8, 1 + b % 8, hs) ∧ hs.length ≤ 6 ∧ ∀ d, 0 ≤ d → d ≤ 1048576 → ctE d (1 + a % 8) (1 + b % 8) hs.length = 0 := by
  unfold insolvencylaw0_Terms.f
  rw [tm a 8 ha (by omega), tm b 8 hb (by omega), w64 (1 + a % 8) (by omega) (by omega), w64 (1 + b % 8) (by omega) (by omega)]
  obtain ⟨hs, h1, h2⟩ := terms_loop l (1 + a % 8) (1 + b % 8) 6 0 [] (by omega) rfl (by simp)
  refine ⟨hs, h1, h2, fun d h3 h4 => ?_⟩
  unfold ctE
  rw [if_neg (by omega), if_neg (by omega), if_neg (by omega)]
theorem mat_props : ∀ (l : List S83) (day : Int) (st : Int → Int), (∀ x ∈ l, Ho.ok83 x) → 0 ≤ day → day + 3 * l.length ≤ 1000000 → ∀ y ∈ matGo l day st, (0 ≤ y.f2 ∧ y.f2 < 4) ∧ 0 ≤ y.f1 ∧ y.f1 ≤ day + 3 * l.length
  | [], day, st, h, h0, h1, y, hy => by cases hy
  | x :: r, day, st, h, h0, h1, y, hy => by
    obtain ⟨w0, w1, w2, w3⟩ := h x (by simp)
    have q1 := tm x.f1 4 (u8_of w1) (by omega)
    have q2 := tm x.f2 4 (u8_of w2) (by omega)
    have hlen : ((x :: r).length : Int) = (r.length : Int) + 1 := by simp
    rw [hlen] at h1 ⊢
    unfold matGo at hy
    rw [q1, q2, w64 (day + x.f1 % 4) (by omega) (by omega)] at hy
    have ih := fun st' hy' => mat_props r (day + x.f1 % 4) st' (fun z hz => h z (by simp [hz])) (by omega) (by omega) y hy'
    by_cases c : 6 ≤ st (x.f2 % 4)
    · rw [if_pos c] at hy
      have := ih _ hy
      omega
    · rw [if_neg c] at hy
      rcases List.mem_cons.1 hy with rfl | hy
      · refine ⟨?_, ?_, ?_⟩ <;> dsimp only <;> omega
      · have := ih _ hy
        omega
theorem mat_len : ∀ (l : List S83) (day : Int) (st : Int → Int), (matGo l day st).length ≤ l.length
  | [], _, _ => Nat.le_refl _
  | x :: r, day, st => by
    unfold matGo
    split
    · have := mat_len r (wrap64 (day + wrap64 (Int.tmod x.f1 4))) st
      simp; omega
    · have := mat_len r (wrap64 (day + wrap64 (Int.tmod x.f1 4))) (fun i => if i = wrap64 (Int.tmod x.f2 4) then wrap64 (st (wrap64 (Int.tmod x.f2 4)) + 1) else st i)
      simp; omega
theorem mats_ev (l : List S83) (h : ∀ x ∈ l, Ho.ok83 x) : ∃ fl, Ev (fun k => law0_Matters.f k l) fl ∧ fl.length ≤ 24 ∧ ∀ y ∈ fl, (0 ≤ y.f2 ∧ y.f2 < 4) ∧ 0 ≤ y.f1 ∧ y.f1 ≤ 72 := by
  have hl : (l.take 24).length ≤ 24 := by rw [List.length_take]; omega
  refine ⟨_, Ev.now _, Nat.le_trans (mat_len _ _ _) hl, fun y hy => ?_⟩
  have := mat_props (l.take 24) 0 (fun _ => 0) (fun x hx => h x (List.mem_of_mem_take hx)) (by omega) (by omega) y hy
  omega
end Go.Proofs.Ytpfiecjacpbhkaa.D
