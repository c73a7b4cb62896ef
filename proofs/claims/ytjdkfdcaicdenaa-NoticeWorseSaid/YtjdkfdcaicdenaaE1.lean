/- What the Go functions named below come to, each told as a Lean function ('.f'), with the proof ('.calls'): no condition beyond those that each theorem states. Written by a program of this session's over the translation. -/
import Derived.Test.YtjdkfdcaicdenaaF0
namespace Go.Proofs.Ytjdkfdcaicdenaa.F
open Go.RowKit Go.Proofs.YtjdkfdcaicdenaaW.PrintWords Go.Proofs.YtjdkfdcaicdenaaW.PrintLast Go.Proofs.YtjdkfdcaicdenaaW.PrintMore
attribute [local go_sem] max2_int min2_int max_two min_two max_three min_three max_four min_four   -- for this text's walks alone
set_option linter.unusedVariables false
set_option linter.unusedSimpArgs false

/-! ### notice_Latest: function 18 -/
def notice_Latest.f (a0_0 : Int) (a0_1 : Int) (a0_2 : Int) (a1_0 : Int) (a1_1 : Int) : Option (Int) := some (wrap64 ((wrap64 (a1_1 + (wrap64 (a0_0 * (wrap64 (a0_1 - 1)))))) + a0_2))
set_option maxHeartbeats 8000000 in
set_option maxRecDepth 100000 in
theorem notice_Latest.calls (a0_0 : Int) (a0_1 : Int) (a0_2 : Int) (a1_0 : Int) (a1_1 : Int) (r : Int) (w : World) (h : notice_Latest.f a0_0 a0_1 a0_2 a1_0 a1_1 = some r) :
    Calls Try.prog 18 #[.agg #[.int .i64 a0_0, .int .i64 a0_1, .int .i64 a0_2], .agg #[.int .i64 a1_0, .int .i64 a1_1]] w fun e w' => e = .returned (.int .i64 r) ∧ Below w.heap.size w w' := by
  have hu23 := Try.underlying23
  have hu46 := Try.underlying46
  have HB := Aside0.mk (Below.refl w.heap.size w)
  have H : (some (wrap64 ((wrap64 (a1_1 + (wrap64 (a0_0 * (wrap64 (a0_1 - 1)))))) + a0_2))) = some r := h
  clear h
  obtain rfl := Option.some.inj H
  go_enter Try.func18, Try.ntmps18
  go_wp2_with (first | ((with_reducible refine gate_dst (N := 2) rfl ?_); refine box_event ?hg (N := 2) ?hd (cs := #[.int .i64 a0_0, .int .i64 a0_1, .int .i64 a0_2]) (t := 23) ?hr ?_; (case hd => rfl); (case hg => rfl); (case hr => first | (go_simp; done) | (go_simp; rfl)); intro gb101 hg w3 hbox hb; have n0_ := Aside0.mk (below_step (by repeat (first | (with_reducible first | exact HB.out | apply below_alloc | apply pw_below_drewN | apply below_drew1) | exact HB.out)) hb); have n1_ := Aside0.mk (hbox); have n2_ := Aside0.mk ((by rw [hg]; exact (below_size (by repeat (first | (with_reducible first | exact HB.out | apply below_alloc | apply pw_below_drewN | apply below_drew1) | exact HB.out))) : w.heap.size ≤ gb101)); have n3_ := Aside0.mk ((by rw [hg]; exact (below_size (by repeat (first | (with_reducible first | exact HB.out | apply below_alloc | apply pw_below_drewN | apply below_drew1) | exact HB.out))) : w.heap.size ≤ gb101)); clear HB; have HB := n0_; have BK101 := n1_; have GW101 := n2_; have GE101 := n3_; clear n0_ n1_ n2_ n3_; clear hb hbox hg) | ((with_reducible refine gate_dst (N := 3) rfl ?_); refine box_event ?hg (N := 3) ?hd (cs := #[.int .i64 a1_0, .int .i64 a1_1]) (t := 46) ?hr ?_; (case hd => rfl); (case hg => rfl); (case hr => first | (go_simp; done) | (go_simp; rfl)); intro gb102 hg w4 hbox hb; have n0_ := Aside0.mk (blk_below (g := gb101) (o := .cells #[.int .i64 a0_0, .int .i64 a0_1, .int .i64 a0_2] 23 (0, 0)) (by (with_reducible repeat (first | refine blk_drewN ?_ _ | refine blk_drew ?_ | refine blk_alloc ?_ _)); exact BK101.out) hb); have n1_ := Aside0.mk (below_step (by repeat (first | (with_reducible first | exact HB.out | apply below_alloc | apply pw_below_drewN | apply below_drew1 | refine below_set ?_ GE101.out) | exact HB.out)) hb); have n2_ := Aside0.mk (hbox); have n3_ := Aside0.mk ((by rw [hg]; exact (below_size (by repeat (first | (with_reducible first | exact HB.out | apply below_alloc | apply pw_below_drewN | apply below_drew1 | refine below_set ?_ GE101.out) | exact HB.out))) : w.heap.size ≤ gb102)); have n4_ := Aside0.mk ((by rw [hg]; exact (below_size (by repeat (first | (with_reducible first | exact HB.out | apply below_alloc | apply pw_below_drewN | apply below_drew1 | refine below_set ?_ GE101.out) | exact HB.out))) : w.heap.size ≤ gb102)); have n5_ := Aside0.mk ((by rw [hg]; exact Nat.ne_of_lt (blk_lt (g := gb101) (o := .cells #[.int .i64 a0_0, .int .i64 a0_1, .int .i64 a0_2] 23 (0, 0)) (by (with_reducible repeat (first | refine blk_drewN ?_ _ | refine blk_drew ?_ | refine blk_alloc ?_ _)); exact BK101.out)) : gb101 ≠ gb102)); have n6_ := Aside0.mk ((by rw [hg]; exact Nat.ne_of_gt (blk_lt (g := gb101) (o := .cells #[.int .i64 a0_0, .int .i64 a0_1, .int .i64 a0_2] 23 (0, 0)) (by (with_reducible repeat (first | refine blk_drewN ?_ _ | refine blk_drew ?_ | refine blk_alloc ?_ _)); exact BK101.out)) : gb102 ≠ gb101)); clear BK101; clear HB; have BK101 := n0_; have HB := n1_; have BK102 := n2_; have GW102 := n3_; have GE102 := n4_; have NB101_102 := n5_; have NB102_101 := n6_; clear n0_ n1_ n2_ n3_ n4_ n5_ n6_; clear hb hbox hg; have hnb5 := NB102_101.out; have hnc5 := NB101_102.out; have hcz6_0 : w4.cell? ⟨gb102, 0, none⟩ = some (.int .i64 a1_0) := (blk_cell BK102.out 0).trans rfl; have hcz6_1 : w4.cell? ⟨gb102, 1, none⟩ = some (.int .i64 a1_1) := (blk_cell BK102.out 1).trans rfl; have hfz6_0 := blk_frozen BK102.out 0; have hfz6_1 := blk_frozen BK102.out 1; have hcz7_0 : w4.cell? ⟨gb101, 0, none⟩ = some (.int .i64 a0_0) := (blk_cell BK101.out 0).trans rfl; have hcz7_1 : w4.cell? ⟨gb101, 1, none⟩ = some (.int .i64 a0_1) := (blk_cell BK101.out 1).trans rfl; have hcz7_2 : w4.cell? ⟨gb101, 2, none⟩ = some (.int .i64 a0_2) := (blk_cell BK101.out 2).trans rfl; have hfz7_0 := blk_frozen BK101.out 0; have hfz7_1 := blk_frozen BK101.out 1; have hfz7_2 := blk_frozen BK101.out 2))
  go_ret
  exact ⟨by first | rfl | (simp [errW_none, errW_some] <;> rfl) | (simp [*, errW_none, errW_some] <;> rfl), by repeat (first | (with_reducible first | exact HB.out | apply below_alloc | apply pw_below_drewN | apply below_drew1 | refine below_set ?_ GE101.out | refine below_set ?_ GE102.out) | exact HB.out)⟩

/-! ### notice_Check: function 11 -/
mutual
def notice_Check.j0 : Nat → List (S46) → List (S54) → Bool → Option (Int)
  | 0, _, _, _ => none
  | k + 1, x1, x2, x36 => if x36 = true then (some 1) else (if (x1.length : Int) > 32 then (notice_Check.j1 k x1 true) else (notice_Check.j1 k x1 (decide ((x2.length : Int) > 256))))
def notice_Check.j1 : Nat → List (S46) → Bool → Option (Int)
  | 0, _, _ => none
  | k + 1, x1, x44 => if x44 = true then (some 2) else (notice_Check.l0 k x1 (x1.length : Int) 0)
def notice_Check.l0 : Nat → List (S46) → Int → Int → Option (Int)
  | 0, _, _, _ => none
  | k + 1, x45, x46, x47 => if x47 < x46 then (if 0 ≤ x47 then (if x47 < (x45.length : Int) then (if ((rd_T46 x45 x47).f0) < 0 then (some 14) else (if ((rd_T46 x45 x47).f1) < 0 then (some 1) else (if ((rd_T46 x45 x47).f1) > 1048576 then (some 1) else (notice_Check.l0 k x45 x46 (wrap64 (x47 + 1)))))) else (none)) else (none)) else (some 0)
end
def notice_Check.f (k : Nat) (a0_0 : Int) (a0_1 : Int) (a0_2 : Int) (l1 : List (S46)) (l2 : List (S54)) : Option (Int) := if a0_0 < 1 then (notice_Check.j0 k l1 l2 true) else (if a0_0 > 1000 then (notice_Check.j0 k l1 l2 true) else (if a0_1 < 1 then (notice_Check.j0 k l1 l2 true) else (if a0_1 > 16 then (notice_Check.j0 k l1 l2 true) else (if a0_2 < 0 then (notice_Check.j0 k l1 l2 true) else (notice_Check.j0 k l1 l2 (decide (a0_2 > 1000)))))))
theorem notice_Check.mono_l : ∀ k, (∀ y0 y1 y2, LeO (notice_Check.j0 k y0 y1 y2) (notice_Check.j0 (k + 1) y0 y1 y2)) ∧ (∀ y0 y1, LeO (notice_Check.j1 k y0 y1) (notice_Check.j1 (k + 1) y0 y1)) ∧ (∀ y0 y1 y2, LeO (notice_Check.l0 k y0 y1 y2) (notice_Check.l0 (k + 1) y0 y1 y2))
  | 0 => ⟨fun _ _ _ r h => by simp [notice_Check.j0] at h, fun _ _ r h => by simp [notice_Check.j1] at h, fun _ _ _ r h => by simp [notice_Check.l0] at h⟩
  | k + 1 => by
    obtain ⟨ih0, ih1, ih2⟩ := notice_Check.mono_l k
    refine ⟨?_, ?_, ?_⟩
    · intro y0 y1 y2
      unfold notice_Check.j0
      repeat' first
      | (with_reducible exact ih0 _ _ _)
      | (with_reducible exact ih1 _ _)
      | (with_reducible exact ih2 _ _ _)
      | (with_reducible exact LeO.refl _)
      | (with_reducible exact LeO.none _)
      | (with_reducible refine LeO.ite ?_ ?_)
      | (with_reducible refine LeO.bind ?_ (fun _ => ?_))
      | exact ih0 _ _ _
      | exact ih1 _ _
      | exact ih2 _ _ _
      | exact LeO.none _
      | refine LeO.ite ?_ ?_
      | refine LeO.bind ?_ (fun _ => ?_)
    · intro y0 y1
      unfold notice_Check.j1
      repeat' first
      | (with_reducible exact ih0 _ _ _)
      | (with_reducible exact ih1 _ _)
      | (with_reducible exact ih2 _ _ _)
      | (with_reducible exact LeO.refl _)
      | (with_reducible exact LeO.none _)
      | (with_reducible refine LeO.ite ?_ ?_)
      | (with_reducible refine LeO.bind ?_ (fun _ => ?_))
      | exact ih0 _ _ _
      | exact ih1 _ _
      | exact ih2 _ _ _
      | exact LeO.none _
      | refine LeO.ite ?_ ?_
      | refine LeO.bind ?_ (fun _ => ?_)
    · intro y0 y1 y2
      unfold notice_Check.l0
      repeat' first
      | (with_reducible exact ih0 _ _ _)
      | (with_reducible exact ih1 _ _)
      | (with_reducible exact ih2 _ _ _)
      | (with_reducible exact LeO.refl _)
      | (with_reducible exact LeO.none _)
      | (with_reducible refine LeO.ite ?_ ?_)
      | (with_reducible refine LeO.bind ?_ (fun _ => ?_))
      | exact ih0 _ _ _
      | exact ih1 _ _
      | exact ih2 _ _ _
      | exact LeO.none _
      | refine LeO.ite ?_ ?_
      | refine LeO.bind ?_ (fun _ => ?_)
theorem notice_Check.mono : ∀ a0 a1 a2 a3 a4 k, LeO (notice_Check.f k a0 a1 a2 a3 a4) (notice_Check.f (k + 1) a0 a1 a2 a3 a4) := by
  intro a0 a1 a2 a3 a4 k
  obtain ⟨ih0, ih1, ih2⟩ := notice_Check.mono_l k
  unfold notice_Check.f
  repeat' first
      | (with_reducible exact ih0 _ _ _)
      | (with_reducible exact ih1 _ _)
      | (with_reducible exact ih2 _ _ _)
      | (with_reducible exact LeO.refl _)
      | (with_reducible exact LeO.none _)
      | (with_reducible refine LeO.ite ?_ ?_)
      | (with_reducible refine LeO.bind ?_ (fun _ => ?_))
      | exact ih0 _ _ _
      | exact ih1 _ _
      | exact ih2 _ _ _
      | exact LeO.none _
      | refine LeO.ite ?_ ?_
      | refine LeO.bind ?_ (fun _ => ?_)
set_option maxHeartbeats 8000000 in
set_option maxRecDepth 100000 in
theorem notice_Check.calls (k : Nat) (a0_0 : Int) (a0_1 : Int) (a0_2 : Int) (A1 : Option Addr) (c1 : Nat) (l1 : List (S46)) (A2 : Option Addr) (c2 : Nat) (l2 : List (S54)) (r : Int) (w : World) (hr1 : Kd.C k46 w A1 l1.length l1) (hc1 : l1.length ≤ c1) (hr2 : Kd.C k54 w A2 l2.length l2) (hc2 : l2.length ≤ c2) (h : notice_Check.f k a0_0 a0_1 a0_2 l1 l2 = some r) :
    Calls Try.prog 11 #[.agg #[.int .i64 a0_0, .int .i64 a0_1, .int .i64 a0_2], .slice A1 l1.length c1, .slice A2 l2.length c2] w fun e w' => e = .returned (.int .i64 r) ∧ Below w.heap.size w w' := by
  have hu23 := Try.underlying23
  have hu46 := Try.underlying46
  have HR1 := Aside0.mk hr1
  have HC1 := Aside0.mk hc1
  clear hr1 hc1
  have HR2 := Aside0.mk hr2
  have HC2 := Aside0.mk hc2
  clear hr2 hc2
  have HB := Aside0.mk (Below.refl w.heap.size w)
  have H : (if a0_0 < 1 then (notice_Check.j0 k l1 l2 true) else (if a0_0 > 1000 then (notice_Check.j0 k l1 l2 true) else (if a0_1 < 1 then (notice_Check.j0 k l1 l2 true) else (if a0_1 > 16 then (notice_Check.j0 k l1 l2 true) else (if a0_2 < 0 then (notice_Check.j0 k l1 l2 true) else (notice_Check.j0 k l1 l2 (decide (a0_2 > 1000)))))))) = some r := h
  clear h
  have HC4 := Aside0.mk H
  clear H
  go_enter Try.func11, Try.ntmps11
  go_upto_region 1 with (first | ((with_reducible refine gate_dst (N := 3) rfl ?_); (try (refine gate_guard (by rfl) ?_; dsimp only)); refine box_event ?hg (N := 3) ?hd (cs := #[.int .i64 a0_0, .int .i64 a0_1, .int .i64 a0_2]) (t := 23) ?hr ?_; (case hd => rfl); (case hg => rfl); (case hr => first | (go_simp; done) | (go_simp; rfl)); intro gb103 hg w5 hbox hb; have n0_ := Aside0.mk (below_step (by repeat (first | (with_reducible first | exact HB.out | apply below_alloc | apply pw_below_drewN | apply below_drew1) | exact HB.out)) hb); have n1_ := Aside0.mk (hbox); have n2_ := Aside0.mk ((by rw [hg]; exact (below_size (by repeat (first | (with_reducible first | exact HB.out | apply below_alloc | apply pw_below_drewN | apply below_drew1) | exact HB.out))) : w.heap.size ≤ gb103)); have n3_ := Aside0.mk ((by rw [hg]; exact (below_size (by repeat (first | (with_reducible first | exact HB.out | apply below_alloc | apply pw_below_drewN | apply below_drew1) | exact HB.out))) : w.heap.size ≤ gb103)); clear HB; have HB := n0_; have BK103 := n1_; have GW103 := n2_; have GE103 := n3_; clear n0_ n1_ n2_ n3_; clear hb hbox hg))
  (try simp only [Act.put, List.setIfInBounds_toArray, List.set_cons_zero, List.set_cons_succ])
  go_cut [36] (fun v36 wc => ∃ (kq : Nat) (x36_3 : Bool), v36 = .bool x36_3 ∧ Aside0 (notice_Check.j0 kq l1 l2 x36_3 = some r) ∧ Aside0 (kq ≤ k) ∧ Aside0 (wc.heap[gb103]? = some (.cells #[.int .i64 a0_0, .int .i64 a0_1, .int .i64 a0_2] 23 (0, 0))) ∧ Aside0 (Below w.heap.size w wc))
  case first =>
    have H := HC4.out
    clear HC4
    by_cases c6 : a0_0 < 1
    · rw [if_pos c6] at H
      have c6b0 : decide (a0_0 < 1) = true := decide_eq_true c6
      clear c6
      (first | rw [c6b0] | (simp only [i64_w, i32_w]; rw [c6b0]) | skip)
      have H' := Aside0.mk H
      clear H
      have hcz7_0 : w5.cell? ⟨gb103, 0, none⟩ = some (.int .i64 a0_0) := (blk_cell BK103.out 0).trans rfl
      have hcz7_1 : w5.cell? ⟨gb103, 1, none⟩ = some (.int .i64 a0_1) := (blk_cell BK103.out 1).trans rfl
      have hcz7_2 : w5.cell? ⟨gb103, 2, none⟩ = some (.int .i64 a0_2) := (blk_cell BK103.out 2).trans rfl
      have hfz7_0 := blk_frozen BK103.out 0
      have hfz7_1 := blk_frozen BK103.out 1
      have hfz7_2 := blk_frozen BK103.out 2
      go_wp2
      go_meet
      case rel => exact ⟨_, (true), (by first | rfl | (simp; done) | (simp [*]; done)), H', ⟨by first | omega | exact Nat.le_refl _⟩, ⟨by (with_reducible repeat (first | refine blk_drewN ?_ _ | refine blk_drew ?_ | refine blk_alloc ?_ _)); exact BK103.out⟩, ⟨by repeat (first | (with_reducible first | exact HB.out | apply below_alloc | apply pw_below_drewN | apply below_drew1 | refine below_set ?_ GE103.out) | exact HB.out)⟩⟩
    · rw [if_neg c6] at H
      have c6b0 : decide (a0_0 < 1) = false := decide_eq_false c6
      clear c6
      (first | rw [c6b0] | (simp only [i64_w, i32_w]; rw [c6b0]) | skip)
      by_cases c8 : a0_0 > 1000
      · rw [if_pos c8] at H
        have c8b0 : decide (1000 < a0_0) = true := decide_eq_true c8
        clear c8
        have H' := Aside0.mk H
        clear H
        have hcz9_0 : w5.cell? ⟨gb103, 0, none⟩ = some (.int .i64 a0_0) := (blk_cell BK103.out 0).trans rfl
        have hcz9_1 : w5.cell? ⟨gb103, 1, none⟩ = some (.int .i64 a0_1) := (blk_cell BK103.out 1).trans rfl
        have hcz9_2 : w5.cell? ⟨gb103, 2, none⟩ = some (.int .i64 a0_2) := (blk_cell BK103.out 2).trans rfl
        have hfz9_0 := blk_frozen BK103.out 0
        have hfz9_1 := blk_frozen BK103.out 1
        have hfz9_2 := blk_frozen BK103.out 2
        go_wp2
        go_meet
        case rel => exact ⟨_, (true), (by first | rfl | (simp; done) | (simp [*]; done)), H', ⟨by first | omega | exact Nat.le_refl _⟩, ⟨by (with_reducible repeat (first | refine blk_drewN ?_ _ | refine blk_drew ?_ | refine blk_alloc ?_ _)); exact BK103.out⟩, ⟨by repeat (first | (with_reducible first | exact HB.out | apply below_alloc | apply pw_below_drewN | apply below_drew1 | refine below_set ?_ GE103.out) | exact HB.out)⟩⟩
      · rw [if_neg c8] at H
        have c8b0 : decide (1000 < a0_0) = false := decide_eq_false c8
        clear c8
        by_cases c10 : a0_1 < 1
        · rw [if_pos c10] at H
          have c10b0 : decide (a0_1 < 1) = true := decide_eq_true c10
          clear c10
          have H' := Aside0.mk H
          clear H
          have hcz11_0 : w5.cell? ⟨gb103, 0, none⟩ = some (.int .i64 a0_0) := (blk_cell BK103.out 0).trans rfl
          have hcz11_1 : w5.cell? ⟨gb103, 1, none⟩ = some (.int .i64 a0_1) := (blk_cell BK103.out 1).trans rfl
          have hcz11_2 : w5.cell? ⟨gb103, 2, none⟩ = some (.int .i64 a0_2) := (blk_cell BK103.out 2).trans rfl
          have hfz11_0 := blk_frozen BK103.out 0
          have hfz11_1 := blk_frozen BK103.out 1
          have hfz11_2 := blk_frozen BK103.out 2
          go_wp2
          go_meet
          case rel => exact ⟨_, (true), (by first | rfl | (simp; done) | (simp [*]; done)), H', ⟨by first | omega | exact Nat.le_refl _⟩, ⟨by (with_reducible repeat (first | refine blk_drewN ?_ _ | refine blk_drew ?_ | refine blk_alloc ?_ _)); exact BK103.out⟩, ⟨by repeat (first | (with_reducible first | exact HB.out | apply below_alloc | apply pw_below_drewN | apply below_drew1 | refine below_set ?_ GE103.out) | exact HB.out)⟩⟩
        · rw [if_neg c10] at H
          have c10b0 : decide (a0_1 < 1) = false := decide_eq_false c10
          clear c10
          by_cases c12 : a0_1 > 16
          · rw [if_pos c12] at H
            have c12b0 : decide (16 < a0_1) = true := decide_eq_true c12
            clear c12
            have H' := Aside0.mk H
            clear H
            have hcz13_0 : w5.cell? ⟨gb103, 0, none⟩ = some (.int .i64 a0_0) := (blk_cell BK103.out 0).trans rfl
            have hcz13_1 : w5.cell? ⟨gb103, 1, none⟩ = some (.int .i64 a0_1) := (blk_cell BK103.out 1).trans rfl
            have hcz13_2 : w5.cell? ⟨gb103, 2, none⟩ = some (.int .i64 a0_2) := (blk_cell BK103.out 2).trans rfl
            have hfz13_0 := blk_frozen BK103.out 0
            have hfz13_1 := blk_frozen BK103.out 1
            have hfz13_2 := blk_frozen BK103.out 2
            go_wp2
            go_meet
            case rel => exact ⟨_, (true), (by first | rfl | (simp; done) | (simp [*]; done)), H', ⟨by first | omega | exact Nat.le_refl _⟩, ⟨by (with_reducible repeat (first | refine blk_drewN ?_ _ | refine blk_drew ?_ | refine blk_alloc ?_ _)); exact BK103.out⟩, ⟨by repeat (first | (with_reducible first | exact HB.out | apply below_alloc | apply pw_below_drewN | apply below_drew1 | refine below_set ?_ GE103.out) | exact HB.out)⟩⟩
          · rw [if_neg c12] at H
            have c12b0 : decide (16 < a0_1) = false := decide_eq_false c12
            clear c12
            by_cases c14 : a0_2 < 0
            · rw [if_pos c14] at H
              have c14b0 : decide (a0_2 < 0) = true := decide_eq_true c14
              clear c14
              have H' := Aside0.mk H
              clear H
              have hcz15_0 : w5.cell? ⟨gb103, 0, none⟩ = some (.int .i64 a0_0) := (blk_cell BK103.out 0).trans rfl
              have hcz15_1 : w5.cell? ⟨gb103, 1, none⟩ = some (.int .i64 a0_1) := (blk_cell BK103.out 1).trans rfl
              have hcz15_2 : w5.cell? ⟨gb103, 2, none⟩ = some (.int .i64 a0_2) := (blk_cell BK103.out 2).trans rfl
              have hfz15_0 := blk_frozen BK103.out 0
              have hfz15_1 := blk_frozen BK103.out 1
              have hfz15_2 := blk_frozen BK103.out 2
              go_wp2
              go_meet
              case rel => exact ⟨_, (true), (by first | rfl | (simp; done) | (simp [*]; done)), H', ⟨by first | omega | exact Nat.le_refl _⟩, ⟨by (with_reducible repeat (first | refine blk_drewN ?_ _ | refine blk_drew ?_ | refine blk_alloc ?_ _)); exact BK103.out⟩, ⟨by repeat (first | (with_reducible first | exact HB.out | apply below_alloc | apply pw_below_drewN | apply below_drew1 | refine below_set ?_ GE103.out) | exact HB.out)⟩⟩
            · rw [if_neg c14] at H
              have c14b0 : decide (a0_2 < 0) = false := decide_eq_false c14
              clear c14
              have H' := Aside0.mk H
              clear H
              have hcz16_0 : w5.cell? ⟨gb103, 0, none⟩ = some (.int .i64 a0_0) := (blk_cell BK103.out 0).trans rfl
              have hcz16_1 : w5.cell? ⟨gb103, 1, none⟩ = some (.int .i64 a0_1) := (blk_cell BK103.out 1).trans rfl
              have hcz16_2 : w5.cell? ⟨gb103, 2, none⟩ = some (.int .i64 a0_2) := (blk_cell BK103.out 2).trans rfl
              have hfz16_0 := blk_frozen BK103.out 0
              have hfz16_1 := blk_frozen BK103.out 1
              have hfz16_2 := blk_frozen BK103.out 2
              go_wp2
              go_meet
              case rel => exact ⟨_, (decide (a0_2 > 1000)), (by first | rfl | (simp; done) | (simp [*]; done)), H', ⟨by first | omega | exact Nat.le_refl _⟩, ⟨by (with_reducible repeat (first | refine blk_drewN ?_ _ | refine blk_drew ?_ | refine blk_alloc ?_ _)); exact BK103.out⟩, ⟨by repeat (first | (with_reducible first | exact HB.out | apply below_alloc | apply pw_below_drewN | apply below_drew1 | refine below_set ?_ GE103.out) | exact HB.out)⟩⟩
  case rest =>
    clear HC4
    try clear c1
    try clear c2
    try clear p2
    try clear c6
    try clear c6b0
    try clear c8
    try clear c8b0
    try clear c10
    try clear c10b0
    try clear c11
    try clear c12
    try clear c12b0
    try clear c14
    try clear c14b0
    try clear hcz11_0
    try clear hcz11_1
    try clear hcz11_2
    try clear hcz13_0
    try clear hcz13_1
    try clear hcz13_2
    try clear hcz15_0
    try clear hcz15_1
    try clear hcz15_2
    try clear hcz16_0
    try clear hcz16_1
    try clear hcz16_2
    try clear hcz7_0
    try clear hcz7_1
    try clear hcz7_2
    try clear hcz9_0
    try clear hcz9_1
    try clear hcz9_2
    try clear hfz11_0
    try clear hfz11_1
    try clear hfz11_2
    try clear hfz13_0
    try clear hfz13_1
    try clear hfz13_2
    try clear hfz15_0
    try clear hfz15_1
    try clear hfz15_2
    try clear hfz16_0
    try clear hfz16_1
    try clear hfz16_2
    try clear hfz7_0
    try clear hfz7_1
    try clear hfz7_2
    try clear hfz9_0
    try clear hfz9_1
    try clear hfz9_2
    obtain ⟨kq, x36_3, rfl, HA, HJ3, BK103, HB⟩ := hcut
    cases kq with
    | zero => exact absurd HA.out (by simp [notice_Check.j0])
    | succ kj3 =>
      have H := HA.out
      clear HA
      simp only [notice_Check.j0] at H
      by_cases c17 : x36_3 = true
      · subst c17
        have H1 : (some 1) = some r := by rw [if_pos rfl] at H; exact H
        clear H
        have H := H1
        clear H1
        obtain rfl := Option.some.inj H
        go_wp2
        go_ret
        exact ⟨by first | rfl | (simp [errW_none, errW_some] <;> rfl) | (simp [*, errW_none, errW_some] <;> rfl), by repeat (first | (with_reducible first | exact HB.out | apply below_alloc | apply pw_below_drewN | apply below_drew1 | refine below_set ?_ GE103.out) | exact HB.out)⟩
      · replace c17 := Bool.eq_false_iff.mpr c17
        subst c17
        have H1 : (if (l1.length : Int) > 32 then (notice_Check.j1 kj3 l1 true) else (notice_Check.j1 kj3 l1 (decide ((l2.length : Int) > 256)))) = some r := by rw [if_neg (show ¬ (false = true) by decide)] at H; exact H
        clear H
        have H := H1
        clear H1
        have HC18 := Aside0.mk H
        clear H
        go_upto_region 3 with (fail)
        go_cut [44] (fun v44 wc => ∃ (kq : Nat) (x44_17 : Bool), v44 = .bool x44_17 ∧ Aside0 (notice_Check.j1 kq l1 x44_17 = some r) ∧ Aside0 (kq ≤ kj3) ∧ Aside0 (wc.heap[gb103]? = some (.cells #[.int .i64 a0_0, .int .i64 a0_1, .int .i64 a0_2] 23 (0, 0))) ∧ Aside0 (Below w.heap.size w wc))
        case first =>
          have H := HC18.out
          clear HC18
          by_cases c19 : (l1.length : Int) > 32
          · rw [if_pos c19] at H
            have c19b0 : decide (32 < (l1.length : Int)) = true := decide_eq_true c19
            have c19b1 : decide (32 < l1.length) = true := decide_eq_true (by omega)
            clear c19
            (first | rw [c19b0] | (simp only [i64_w, i32_w]; rw [c19b0]) | skip)
            have H' := Aside0.mk H
            clear H
            go_wp2
            go_meet
            case rel => exact ⟨_, (true), (by first | rfl | (simp; done) | (simp [*]; done)), H', ⟨by have := HJ3.out; first | omega | exact Nat.le_refl _⟩, ⟨by (with_reducible repeat (first | refine blk_drewN ?_ _ | refine blk_drew ?_ | refine blk_alloc ?_ _)); exact BK103.out⟩, ⟨by repeat (first | (with_reducible first | exact HB.out | apply below_alloc | apply pw_below_drewN | apply below_drew1 | refine below_set ?_ GE103.out) | exact HB.out)⟩⟩
          · rw [if_neg c19] at H
            have c19b0 : decide (32 < (l1.length : Int)) = false := decide_eq_false c19
            have c19b1 : decide (32 < l1.length) = false := decide_eq_false (by omega)
            clear c19
            (first | rw [c19b0] | (simp only [i64_w, i32_w]; rw [c19b0]) | skip)
            have H' := Aside0.mk H
            clear H
            go_wp2
            go_meet
            case rel => exact ⟨_, (decide ((l2.length : Int) > 256)), (by first | rfl | (simp; done) | (simp [*]; done)), H', ⟨by have := HJ3.out; first | omega | exact Nat.le_refl _⟩, ⟨by (with_reducible repeat (first | refine blk_drewN ?_ _ | refine blk_drew ?_ | refine blk_alloc ?_ _)); exact BK103.out⟩, ⟨by repeat (first | (with_reducible first | exact HB.out | apply below_alloc | apply pw_below_drewN | apply below_drew1 | refine below_set ?_ GE103.out) | exact HB.out)⟩⟩
        case rest =>
          clear HC18
          try clear c1
          try clear c2
          try clear p2
          try clear c6
          try clear c6b0
          try clear c8
          try clear c8b0
          try clear c10
          try clear c10b0
          try clear c11
          try clear c12
          try clear c12b0
          try clear c14
          try clear c14b0
          try clear c17
          try clear c19
          try clear c19b0
          try clear c19b1
          try clear hcz11_0
          try clear hcz11_1
          try clear hcz11_2
          try clear hcz13_0
          try clear hcz13_1
          try clear hcz13_2
          try clear hcz15_0
          try clear hcz15_1
          try clear hcz15_2
          try clear hcz16_0
          try clear hcz16_1
          try clear hcz16_2
          try clear hcz7_0
          try clear hcz7_1
          try clear hcz7_2
          try clear hcz9_0
          try clear hcz9_1
          try clear hcz9_2
          try clear hfz11_0
          try clear hfz11_1
          try clear hfz11_2
          try clear hfz13_0
          try clear hfz13_1
          try clear hfz13_2
          try clear hfz15_0
          try clear hfz15_1
          try clear hfz15_2
          try clear hfz16_0
          try clear hfz16_1
          try clear hfz16_2
          try clear hfz7_0
          try clear hfz7_1
          try clear hfz7_2
          try clear hfz9_0
          try clear hfz9_1
          try clear hfz9_2
          try clear p2
          obtain ⟨kq, x44_17, rfl, HA, HJ17, BK103, HB⟩ := hcut
          cases kq with
          | zero => exact absurd HA.out (by simp [notice_Check.j1])
          | succ kj17 =>
            have H := HA.out
            clear HA
            simp only [notice_Check.j1] at H
            by_cases c20 : x44_17 = true
            · subst c20
              have H1 : (some 2) = some r := by rw [if_pos rfl] at H; exact H
              clear H
              have H := H1
              clear H1
              obtain rfl := Option.some.inj H
              go_wp2
              go_ret
              exact ⟨by first | rfl | (simp [errW_none, errW_some] <;> rfl) | (simp [*, errW_none, errW_some] <;> rfl), by repeat (first | (with_reducible first | exact HB.out | apply below_alloc | apply pw_below_drewN | apply below_drew1 | refine below_set ?_ GE103.out) | exact HB.out)⟩
            · replace c20 := Bool.eq_false_iff.mpr c20
              subst c20
              have H1 : (notice_Check.l0 kj17 l1 (l1.length : Int) 0) = some r := by rw [if_neg (show ¬ (false = true) by decide)] at H; exact H
              clear H
              have H := H1
              clear H1
              have H' := Aside0.mk H
              clear H
              go_wp2
              go_loopg [47] kj17 (fun kq v47 w' => ∃ (x47_3 : Int), v47 = .int .i64 x47_3 ∧ Aside0 (notice_Check.l0 kq l1 (l1.length : Int) x47_3 = some r) ∧ Aside0 (kq ≤ kj17) ∧ Aside0 (w'.heap[gb103]? = some (.cells #[.int .i64 a0_0, .int .i64 a0_1, .int .i64 a0_2] 23 (0, 0))) ∧ Aside0 (Below w.heap.size w w'))
              case atStart => exact ⟨(0), (by first | rfl | (simp; done) | (simp [*]; done)), H', ⟨Nat.le_refl _⟩, ⟨by (with_reducible repeat (first | refine blk_drewN ?_ _ | refine blk_drew ?_ | refine blk_alloc ?_ _)); exact BK103.out⟩, ⟨by repeat (first | (with_reducible first | exact HB.out | apply below_alloc | apply pw_below_drewN | apply below_drew1 | refine below_set ?_ GE103.out) | exact HB.out)⟩⟩
              case round =>
                clear H'
                try clear c1
                try clear c2
                try clear p2
                try clear c6
                try clear c6b0
                try clear c8
                try clear c8b0
                try clear c10
                try clear c10b0
                try clear c11
                try clear c12
                try clear c12b0
                try clear c14
                try clear c14b0
                try clear c17
                try clear c19
                try clear c19b0
                try clear c19b1
                try clear c20
                try clear hcz11_0
                try clear hcz11_1
                try clear hcz11_2
                try clear hcz13_0
                try clear hcz13_1
                try clear hcz13_2
                try clear hcz15_0
                try clear hcz15_1
                try clear hcz15_2
                try clear hcz16_0
                try clear hcz16_1
                try clear hcz16_2
                try clear hcz7_0
                try clear hcz7_1
                try clear hcz7_2
                try clear hcz9_0
                try clear hcz9_1
                try clear hcz9_2
                try clear hfz11_0
                try clear hfz11_1
                try clear hfz11_2
                try clear hfz13_0
                try clear hfz13_1
                try clear hfz13_2
                try clear hfz15_0
                try clear hfz15_1
                try clear hfz15_2
                try clear hfz16_0
                try clear hfz16_1
                try clear hfz16_2
                try clear hfz7_0
                try clear hfz7_1
                try clear hfz7_2
                try clear hfz9_0
                try clear hfz9_1
                try clear hfz9_2
                try clear p2
                obtain ⟨x47_3, rfl, HA, HK3, BK103, HB⟩ := hrel
                cases gk with
                | zero => exact absurd HA.out (by simp [notice_Check.l0])
                | succ k3 =>
                  have H := HA.out
                  clear HA
                  simp only [notice_Check.l0] at H
                  by_cases c21 : x47_3 < (l1.length : Int)
                  · rw [if_pos c21] at H
                    have c21b0 : decide (x47_3 < (l1.length : Int)) = true := decide_eq_true c21
                    clear c21
                    by_cases c22 : 0 ≤ x47_3
                    · rw [if_pos c22] at H
                      have c22b0 : decide (0 ≤ x47_3) = true := decide_eq_true c22
                      clear c22
                      by_cases c23 : x47_3 < (l1.length : Int)
                      · rw [if_pos c23] at H
                        have c23b0 : decide (x47_3 < (l1.length : Int)) = true := decide_eq_true c23
                        clear c23
                        by_cases c24 : ((rd_T46 l1 x47_3).f0) < 0
                        · rw [if_pos c24] at H
                          have c24b0 : decide (((rd_T46 l1 x47_3).f0) < 0) = true := decide_eq_true c24
                          clear c24
                          obtain rfl := Option.some.inj H
                          have p104 : 0 ≤ (x47_3 : Int) := of_decide_eq_true (by first | (with_reducible assumption) | assumption)
                          have q104 : x47_3 < (l1.length : Int) := of_decide_eq_true (by first | (with_reducible assumption) | assumption)
                          obtain ⟨ad104, e104, hx104_0, hx104_1⟩ := at_T46 HR1.out x47_3 p104 q104
                          cases e104
                          replace hx104_0 := (HB.out.cell (World.block_lt_of_cell? w _ hx104_0)).trans hx104_0
                          replace hx104_1 := (HB.out.cell (World.block_lt_of_cell? w _ hx104_1)).trans hx104_1
                          replace p104 := eq_true p104
                          replace q104 := eq_true q104
                          go_wp2_with (first | ((with_reducible refine gate_dst (N := 8) rfl ?_); (try (refine gate_guard (by rfl) ?_; dsimp only)); refine box_event ?hg (N := 8) ?hd (cs := #[.int .i64 0, .int .i64 0]) (t := 46) ?hr ?_; (case hd => rfl); (case hg => rfl); (case hr => first | (go_simp; done) | (go_simp; rfl)); intro gb105 hg w25 hbox hb; have n0_ := Aside0.mk (blk_below (g := gb103) (o := .cells #[.int .i64 a0_0, .int .i64 a0_1, .int .i64 a0_2] 23 (0, 0)) (by (with_reducible repeat (first | refine blk_drewN ?_ _ | refine blk_drew ?_ | refine blk_alloc ?_ _)); exact BK103.out) hb); have n1_ := Aside0.mk (below_step (by repeat (first | (with_reducible first | exact HB.out | apply below_alloc | apply pw_below_drewN | apply below_drew1 | refine below_set ?_ GE103.out) | exact HB.out)) hb); have n2_ := Aside0.mk (hbox); have n3_ := Aside0.mk ((by rw [hg]; exact (below_size (by repeat (first | (with_reducible first | exact HB.out | apply below_alloc | apply pw_below_drewN | apply below_drew1 | refine below_set ?_ GE103.out) | exact HB.out))) : w.heap.size ≤ gb105)); have n4_ := Aside0.mk ((by rw [hg]; exact (below_size (by repeat (first | (with_reducible first | exact HB.out | apply below_alloc | apply pw_below_drewN | apply below_drew1 | refine below_set ?_ GE103.out) | exact HB.out))) : w.heap.size ≤ gb105)); have n5_ := Aside0.mk ((by rw [hg]; exact Nat.ne_of_lt (blk_lt (g := gb103) (o := .cells #[.int .i64 a0_0, .int .i64 a0_1, .int .i64 a0_2] 23 (0, 0)) (by (with_reducible repeat (first | refine blk_drewN ?_ _ | refine blk_drew ?_ | refine blk_alloc ?_ _)); exact BK103.out)) : gb103 ≠ gb105)); have n6_ := Aside0.mk ((by rw [hg]; exact Nat.ne_of_gt (blk_lt (g := gb103) (o := .cells #[.int .i64 a0_0, .int .i64 a0_1, .int .i64 a0_2] 23 (0, 0)) (by (with_reducible repeat (first | refine blk_drewN ?_ _ | refine blk_drew ?_ | refine blk_alloc ?_ _)); exact BK103.out)) : gb105 ≠ gb103)); clear BK103; clear HB; have BK103 := n0_; have HB := n1_; have BK105 := n2_; have GW105 := n3_; have GE105 := n4_; have NB103_105 := n5_; have NB105_103 := n6_; clear n0_ n1_ n2_ n3_ n4_ n5_ n6_; clear hb hbox hg; have hnb26 := NB105_103.out; have hnc26 := NB103_105.out; have hcz27_0 : w25.cell? ⟨gb105, 0, none⟩ = some (.int .i64 0) := (blk_cell BK105.out 0).trans rfl; have hcz27_1 : w25.cell? ⟨gb105, 1, none⟩ = some (.int .i64 0) := (blk_cell BK105.out 1).trans rfl; have hfz27_0 := blk_frozen BK105.out 0; have hfz27_1 := blk_frozen BK105.out 1))
                          go_ret
                          exact ⟨by first | rfl | (simp [errW_none, errW_some] <;> rfl) | (simp [*, errW_none, errW_some] <;> rfl), by repeat (first | (with_reducible first | exact HB.out | apply below_alloc | apply pw_below_drewN | apply below_drew1 | refine below_set ?_ GE103.out | refine below_set ?_ GE105.out) | exact HB.out)⟩
                        · rw [if_neg c24] at H
                          have c24b0 : decide (((rd_T46 l1 x47_3).f0) < 0) = false := decide_eq_false c24
                          clear c24
                          by_cases c28 : ((rd_T46 l1 x47_3).f1) < 0
                          · rw [if_pos c28] at H
                            have c28b0 : decide (((rd_T46 l1 x47_3).f1) < 0) = true := decide_eq_true c28
                            clear c28
                            obtain rfl := Option.some.inj H
                            have p104 : 0 ≤ (x47_3 : Int) := of_decide_eq_true (by first | (with_reducible assumption) | assumption)
                            have q104 : x47_3 < (l1.length : Int) := of_decide_eq_true (by first | (with_reducible assumption) | assumption)
                            obtain ⟨ad104, e104, hx104_0, hx104_1⟩ := at_T46 HR1.out x47_3 p104 q104
                            cases e104
                            replace hx104_0 := (HB.out.cell (World.block_lt_of_cell? w _ hx104_0)).trans hx104_0
                            replace hx104_1 := (HB.out.cell (World.block_lt_of_cell? w _ hx104_1)).trans hx104_1
                            replace p104 := eq_true p104
                            replace q104 := eq_true q104
                            go_wp2_with (first | ((with_reducible refine gate_dst (N := 8) rfl ?_); (try (refine gate_guard (by rfl) ?_; dsimp only)); refine box_event ?hg (N := 8) ?hd (cs := #[.int .i64 0, .int .i64 0]) (t := 46) ?hr ?_; (case hd => rfl); (case hg => rfl); (case hr => first | (go_simp; done) | (go_simp; rfl)); intro gb105 hg w29 hbox hb; have n0_ := Aside0.mk (blk_below (g := gb103) (o := .cells #[.int .i64 a0_0, .int .i64 a0_1, .int .i64 a0_2] 23 (0, 0)) (by (with_reducible repeat (first | refine blk_drewN ?_ _ | refine blk_drew ?_ | refine blk_alloc ?_ _)); exact BK103.out) hb); have n1_ := Aside0.mk (below_step (by repeat (first | (with_reducible first | exact HB.out | apply below_alloc | apply pw_below_drewN | apply below_drew1 | refine below_set ?_ GE103.out) | exact HB.out)) hb); have n2_ := Aside0.mk (hbox); have n3_ := Aside0.mk ((by rw [hg]; exact (below_size (by repeat (first | (with_reducible first | exact HB.out | apply below_alloc | apply pw_below_drewN | apply below_drew1 | refine below_set ?_ GE103.out) | exact HB.out))) : w.heap.size ≤ gb105)); have n4_ := Aside0.mk ((by rw [hg]; exact (below_size (by repeat (first | (with_reducible first | exact HB.out | apply below_alloc | apply pw_below_drewN | apply below_drew1 | refine below_set ?_ GE103.out) | exact HB.out))) : w.heap.size ≤ gb105)); have n5_ := Aside0.mk ((by rw [hg]; exact Nat.ne_of_lt (blk_lt (g := gb103) (o := .cells #[.int .i64 a0_0, .int .i64 a0_1, .int .i64 a0_2] 23 (0, 0)) (by (with_reducible repeat (first | refine blk_drewN ?_ _ | refine blk_drew ?_ | refine blk_alloc ?_ _)); exact BK103.out)) : gb103 ≠ gb105)); have n6_ := Aside0.mk ((by rw [hg]; exact Nat.ne_of_gt (blk_lt (g := gb103) (o := .cells #[.int .i64 a0_0, .int .i64 a0_1, .int .i64 a0_2] 23 (0, 0)) (by (with_reducible repeat (first | refine blk_drewN ?_ _ | refine blk_drew ?_ | refine blk_alloc ?_ _)); exact BK103.out)) : gb105 ≠ gb103)); clear BK103; clear HB; have BK103 := n0_; have HB := n1_; have BK105 := n2_; have GW105 := n3_; have GE105 := n4_; have NB103_105 := n5_; have NB105_103 := n6_; clear n0_ n1_ n2_ n3_ n4_ n5_ n6_; clear hb hbox hg; have hnb30 := NB105_103.out; have hnc30 := NB103_105.out; have hcz31_0 : w29.cell? ⟨gb105, 0, none⟩ = some (.int .i64 0) := (blk_cell BK105.out 0).trans rfl; have hcz31_1 : w29.cell? ⟨gb105, 1, none⟩ = some (.int .i64 0) := (blk_cell BK105.out 1).trans rfl; have hfz31_0 := blk_frozen BK105.out 0; have hfz31_1 := blk_frozen BK105.out 1))
                            go_ret
                            exact ⟨by first | rfl | (simp [errW_none, errW_some] <;> rfl) | (simp [*, errW_none, errW_some] <;> rfl), by repeat (first | (with_reducible first | exact HB.out | apply below_alloc | apply pw_below_drewN | apply below_drew1 | refine below_set ?_ GE103.out | refine below_set ?_ GE105.out) | exact HB.out)⟩
                          · rw [if_neg c28] at H
                            have c28b0 : decide (((rd_T46 l1 x47_3).f1) < 0) = false := decide_eq_false c28
                            clear c28
                            by_cases c32 : ((rd_T46 l1 x47_3).f1) > 1048576
                            · rw [if_pos c32] at H
                              have c32b0 : decide (1048576 < ((rd_T46 l1 x47_3).f1)) = true := decide_eq_true c32
                              clear c32
                              obtain rfl := Option.some.inj H
                              have p104 : 0 ≤ (x47_3 : Int) := of_decide_eq_true (by first | (with_reducible assumption) | assumption)
                              have q104 : x47_3 < (l1.length : Int) := of_decide_eq_true (by first | (with_reducible assumption) | assumption)
                              obtain ⟨ad104, e104, hx104_0, hx104_1⟩ := at_T46 HR1.out x47_3 p104 q104
                              cases e104
                              replace hx104_0 := (HB.out.cell (World.block_lt_of_cell? w _ hx104_0)).trans hx104_0
                              replace hx104_1 := (HB.out.cell (World.block_lt_of_cell? w _ hx104_1)).trans hx104_1
                              replace p104 := eq_true p104
                              replace q104 := eq_true q104
                              go_wp2_with (first | ((with_reducible refine gate_dst (N := 8) rfl ?_); (try (refine gate_guard (by rfl) ?_; dsimp only)); refine box_event ?hg (N := 8) ?hd (cs := #[.int .i64 0, .int .i64 0]) (t := 46) ?hr ?_; (case hd => rfl); (case hg => rfl); (case hr => first | (go_simp; done) | (go_simp; rfl)); intro gb105 hg w33 hbox hb; have n0_ := Aside0.mk (blk_below (g := gb103) (o := .cells #[.int .i64 a0_0, .int .i64 a0_1, .int .i64 a0_2] 23 (0, 0)) (by (with_reducible repeat (first | refine blk_drewN ?_ _ | refine blk_drew ?_ | refine blk_alloc ?_ _)); exact BK103.out) hb); have n1_ := Aside0.mk (below_step (by repeat (first | (with_reducible first | exact HB.out | apply below_alloc | apply pw_below_drewN | apply below_drew1 | refine below_set ?_ GE103.out) | exact HB.out)) hb); have n2_ := Aside0.mk (hbox); have n3_ := Aside0.mk ((by rw [hg]; exact (below_size (by repeat (first | (with_reducible first | exact HB.out | apply below_alloc | apply pw_below_drewN | apply below_drew1 | refine below_set ?_ GE103.out) | exact HB.out))) : w.heap.size ≤ gb105)); have n4_ := Aside0.mk ((by rw [hg]; exact (below_size (by repeat (first | (with_reducible first | exact HB.out | apply below_alloc | apply pw_below_drewN | apply below_drew1 | refine below_set ?_ GE103.out) | exact HB.out))) : w.heap.size ≤ gb105)); have n5_ := Aside0.mk ((by rw [hg]; exact Nat.ne_of_lt (blk_lt (g := gb103) (o := .cells #[.int .i64 a0_0, .int .i64 a0_1, .int .i64 a0_2] 23 (0, 0)) (by (with_reducible repeat (first | refine blk_drewN ?_ _ | refine blk_drew ?_ | refine blk_alloc ?_ _)); exact BK103.out)) : gb103 ≠ gb105)); have n6_ := Aside0.mk ((by rw [hg]; exact Nat.ne_of_gt (blk_lt (g := gb103) (o := .cells #[.int .i64 a0_0, .int .i64 a0_1, .int .i64 a0_2] 23 (0, 0)) (by (with_reducible repeat (first | refine blk_drewN ?_ _ | refine blk_drew ?_ | refine blk_alloc ?_ _)); exact BK103.out)) : gb105 ≠ gb103)); clear BK103; clear HB; have BK103 := n0_; have HB := n1_; have BK105 := n2_; have GW105 := n3_; have GE105 := n4_; have NB103_105 := n5_; have NB105_103 := n6_; clear n0_ n1_ n2_ n3_ n4_ n5_ n6_; clear hb hbox hg; have hnb34 := NB105_103.out; have hnc34 := NB103_105.out; have hcz35_0 : w33.cell? ⟨gb105, 0, none⟩ = some (.int .i64 0) := (blk_cell BK105.out 0).trans rfl; have hcz35_1 : w33.cell? ⟨gb105, 1, none⟩ = some (.int .i64 0) := (blk_cell BK105.out 1).trans rfl; have hfz35_0 := blk_frozen BK105.out 0; have hfz35_1 := blk_frozen BK105.out 1))
                              go_ret
                              exact ⟨by first | rfl | (simp [errW_none, errW_some] <;> rfl) | (simp [*, errW_none, errW_some] <;> rfl), by repeat (first | (with_reducible first | exact HB.out | apply below_alloc | apply pw_below_drewN | apply below_drew1 | refine below_set ?_ GE103.out | refine below_set ?_ GE105.out) | exact HB.out)⟩
                            · rw [if_neg c32] at H
                              have c32b0 : decide (1048576 < ((rd_T46 l1 x47_3).f1)) = false := decide_eq_false c32
                              clear c32
                              have H' := Aside0.mk H
                              clear H
                              have p104 : 0 ≤ (x47_3 : Int) := of_decide_eq_true (by first | (with_reducible assumption) | assumption)
                              have q104 : x47_3 < (l1.length : Int) := of_decide_eq_true (by first | (with_reducible assumption) | assumption)
                              obtain ⟨ad104, e104, hx104_0, hx104_1⟩ := at_T46 HR1.out x47_3 p104 q104
                              cases e104
                              replace hx104_0 := (HB.out.cell (World.block_lt_of_cell? w _ hx104_0)).trans hx104_0
                              replace hx104_1 := (HB.out.cell (World.block_lt_of_cell? w _ hx104_1)).trans hx104_1
                              replace p104 := eq_true p104
                              replace q104 := eq_true q104
                              go_wp2_with (first | ((with_reducible refine gate_dst (N := 8) rfl ?_); (try (refine gate_guard (by rfl) ?_; dsimp only)); refine box_event ?hg (N := 8) ?hd (cs := #[.int .i64 0, .int .i64 0]) (t := 46) ?hr ?_; (case hd => rfl); (case hg => rfl); (case hr => first | (go_simp; done) | (go_simp; rfl)); intro gb105 hg w36 hbox hb; have n0_ := Aside0.mk (blk_below (g := gb103) (o := .cells #[.int .i64 a0_0, .int .i64 a0_1, .int .i64 a0_2] 23 (0, 0)) (by (with_reducible repeat (first | refine blk_drewN ?_ _ | refine blk_drew ?_ | refine blk_alloc ?_ _)); exact BK103.out) hb); have n1_ := Aside0.mk (below_step (by repeat (first | (with_reducible first | exact HB.out | apply below_alloc | apply pw_below_drewN | apply below_drew1 | refine below_set ?_ GE103.out) | exact HB.out)) hb); have n2_ := Aside0.mk (hbox); have n3_ := Aside0.mk ((by rw [hg]; exact (below_size (by repeat (first | (with_reducible first | exact HB.out | apply below_alloc | apply pw_below_drewN | apply below_drew1 | refine below_set ?_ GE103.out) | exact HB.out))) : w.heap.size ≤ gb105)); have n4_ := Aside0.mk ((by rw [hg]; exact (below_size (by repeat (first | (with_reducible first | exact HB.out | apply below_alloc | apply pw_below_drewN | apply below_drew1 | refine below_set ?_ GE103.out) | exact HB.out))) : w.heap.size ≤ gb105)); have n5_ := Aside0.mk ((by rw [hg]; exact Nat.ne_of_lt (blk_lt (g := gb103) (o := .cells #[.int .i64 a0_0, .int .i64 a0_1, .int .i64 a0_2] 23 (0, 0)) (by (with_reducible repeat (first | refine blk_drewN ?_ _ | refine blk_drew ?_ | refine blk_alloc ?_ _)); exact BK103.out)) : gb103 ≠ gb105)); have n6_ := Aside0.mk ((by rw [hg]; exact Nat.ne_of_gt (blk_lt (g := gb103) (o := .cells #[.int .i64 a0_0, .int .i64 a0_1, .int .i64 a0_2] 23 (0, 0)) (by (with_reducible repeat (first | refine blk_drewN ?_ _ | refine blk_drew ?_ | refine blk_alloc ?_ _)); exact BK103.out)) : gb105 ≠ gb103)); clear BK103; clear HB; have BK103 := n0_; have HB := n1_; have BK105 := n2_; have GW105 := n3_; have GE105 := n4_; have NB103_105 := n5_; have NB105_103 := n6_; clear n0_ n1_ n2_ n3_ n4_ n5_ n6_; clear hb hbox hg; have hnb37 := NB105_103.out; have hnc37 := NB103_105.out; have hcz38_0 : w36.cell? ⟨gb105, 0, none⟩ = some (.int .i64 0) := (blk_cell BK105.out 0).trans rfl; have hcz38_1 : w36.cell? ⟨gb105, 1, none⟩ = some (.int .i64 0) := (blk_cell BK105.out 1).trans rfl; have hfz38_0 := blk_frozen BK105.out 0; have hfz38_1 := blk_frozen BK105.out 1))
                              go_roundg k3
                              case measure => have := HJ3.out; have := HJ17.out; have := HK3.out; omega
                              case rel => exact ⟨(wrap64 (x47_3 + 1)), (by first | rfl | (simp; done) | (simp [*]; done)), H', ⟨by have := HJ3.out; have := HJ17.out; have := HK3.out; omega⟩, ⟨by (with_reducible repeat (first | refine blk_drewN ?_ _ | refine blk_drew ?_ | refine blk_alloc ?_ _)); refine blk_far ?_ NB103_105.out _; (with_reducible repeat (first | refine blk_drewN ?_ _ | refine blk_drew ?_ | refine blk_alloc ?_ _)); refine blk_far ?_ NB103_105.out _; (with_reducible repeat (first | refine blk_drewN ?_ _ | refine blk_drew ?_ | refine blk_alloc ?_ _)); exact BK103.out⟩, ⟨by repeat (first | (with_reducible first | exact HB.out | apply below_alloc | apply pw_below_drewN | apply below_drew1 | refine below_set ?_ GE103.out | refine below_set ?_ GE105.out) | exact HB.out)⟩⟩
                      · rw [if_neg c23] at H
                        exact absurd H (by simp)
                    · rw [if_neg c22] at H
                      exact absurd H (by simp)
                  · rw [if_neg c21] at H
                    have c21b0 : decide (x47_3 < (l1.length : Int)) = false := decide_eq_false c21
                    clear c21
                    obtain rfl := Option.some.inj H
                    go_wp2
                    go_ret
                    exact ⟨by first | rfl | (simp [errW_none, errW_some] <;> rfl) | (simp [*, errW_none, errW_some] <;> rfl), by repeat (first | (with_reducible first | exact HB.out | apply below_alloc | apply pw_below_drewN | apply below_drew1 | refine below_set ?_ GE103.out) | exact HB.out)⟩

end Go.Proofs.Ytjdkfdcaicdenaa.F
