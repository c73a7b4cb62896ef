/- notice.Serve comes to the Lean function 'notice_Serve.f': its map is the set of the losses that it is handed (the condition: their numbers are ones that a program can hold, and they are fewer than a milliard). -/
import Derived.Test.YtmlhckcnpfokaaaGsrv
import Derived.Test.YtmlhckcnpfokaaaDE1
namespace Go.Proofs.Ytmlhckcnpfokaaa.D
open Go.RowKit Go.Proofs.YtmlhckcnpfokaaaW.PrintWords Go.Proofs.YtmlhckcnpfokaaaW.PrintLast Go.Proofs.YtmlhckcnpfokaaaW.PrintMore
attribute [local go_sem] max2_int min2_int max_two min_two max_three min_three max_four min_four   -- for this text's walks alone
set_option linter.unusedVariables false
set_option linter.unusedSimpArgs false

/-! ### notice_Serve: function 38 -/
def notice_Serve.l0 : Nat → List (S69) → List (S45) → List (S64) → Int → Int → Int → Int → Int → Option ((List (S45)) × Int)
  | 0, _, _, _, _, _, _, _, _ => none
  | k + 1, x9, x12, x32, x33, x34, x102000, x102001, x102002 => if x34 < x33 then (if 0 ≤ x34 then (if x34 < (x32.length : Int) then ((notice_serve.f k x102000 x102001 x102002 ((rd_T64 x32 x34).f0) ((rd_T64 x32 x34).f1) x34 x9).bind fun bt105 => (if x12.length < 4398046511104 then (notice_Serve.l0 k x9 (x12 ++ [(⟨bt105.1, bt105.2.1, bt105.2.2.1, bt105.2.2.2⟩ : S45)]) x32 x33 (wrap64 (x34 + 1)) x102000 x102001 x102002) else (none))) else (none)) else (none)) else (some (x12, 0))
def notice_Serve.f (k : Nat) (a0_0 : Int) (a0_1 : Int) (a0_2 : Int) (l1 : List (S64)) (l2 : List (S69)) : Option ((List (S45)) × Int) := (notice_Check.f k a0_0 a0_1 a0_2 l1 l2).bind fun t102 => (if t102 = 0 then (if Hw.okLoss l2 = true then (notice_Serve.l0 k l2 ([] : List (S45)) l1 (l1.length : Int) 0 a0_0 a0_1 a0_2) else none) else (some (([] : List (S45)), t102)))
theorem notice_Serve.mono_l : ∀ k, (∀ y0 y1 y2 y3 y4 y5 y6 y7, LeO (notice_Serve.l0 k y0 y1 y2 y3 y4 y5 y6 y7) (notice_Serve.l0 (k + 1) y0 y1 y2 y3 y4 y5 y6 y7))
  | 0 => fun _ _ _ _ _ _ _ _ r h => by simp [notice_Serve.l0] at h
  | k + 1 => by
    have ih0 := notice_Serve.mono_l k
    · intro y0 y1 y2 y3 y4 y5 y6 y7
      unfold notice_Serve.l0
      repeat' first
      | (with_reducible exact ih0 _ _ _ _ _ _ _ _)
      | (with_reducible exact notice_Check.mono _ _ _ _ _ _)
      | (with_reducible exact notice_serve.mono _ _ _ _ _ _ _ _)
      | (with_reducible exact LeO.refl _)
      | (with_reducible exact LeO.none _)
      | (with_reducible refine LeO.ite ?_ ?_)
      | (with_reducible refine LeO.bind ?_ (fun _ => ?_))
      | exact ih0 _ _ _ _ _ _ _ _
      | exact notice_Check.mono _ _ _ _ _ _
      | exact notice_serve.mono _ _ _ _ _ _ _ _
      | exact LeO.none _
      | refine LeO.ite ?_ ?_
      | refine LeO.bind ?_ (fun _ => ?_)
theorem notice_Serve.mono : ∀ a0 a1 a2 a3 a4 k, LeO (notice_Serve.f k a0 a1 a2 a3 a4) (notice_Serve.f (k + 1) a0 a1 a2 a3 a4) := by
  intro a0 a1 a2 a3 a4 k
  have ih0 := notice_Serve.mono_l k
  unfold notice_Serve.f
  repeat' first
      | (with_reducible exact ih0 _ _ _ _ _ _ _ _)
      | (with_reducible exact notice_Check.mono _ _ _ _ _ _)
      | (with_reducible exact notice_serve.mono _ _ _ _ _ _ _ _)
      | (with_reducible exact LeO.refl _)
      | (with_reducible exact LeO.none _)
      | (with_reducible refine LeO.ite ?_ ?_)
      | (with_reducible refine LeO.bind ?_ (fun _ => ?_))
      | exact ih0 _ _ _ _ _ _ _ _
      | exact notice_Check.mono _ _ _ _ _ _
      | exact notice_serve.mono _ _ _ _ _ _ _ _
      | exact LeO.none _
      | refine LeO.ite ?_ ?_
      | refine LeO.bind ?_ (fun _ => ?_)
set_option maxHeartbeats 8000000 in
set_option maxRecDepth 100000 in
theorem notice_Serve.calls (k : Nat) (a0_0 : Int) (a0_1 : Int) (a0_2 : Int) (A1 : Option Addr) (c1 : Nat) (l1 : List (S64)) (A2 : Option Addr) (c2 : Nat) (l2 : List (S69)) (r1 : List (S45)) (r2 : Int) (w : World) (hr1 : Kd.C k64 w A1 l1.length l1) (hc1 : l1.length ≤ c1) (hr2 : Kd.C k69 w A2 l2.length l2) (hc2 : l2.length ≤ c2) (h : notice_Serve.f k a0_0 a0_1 a0_2 l1 l2 = some (r1, r2)) :
    Calls Try.prog 38 #[.agg #[.int .i64 a0_0, .int .i64 a0_1, .int .i64 a0_2], .slice A1 l1.length c1, .slice A2 l2.length c2] w fun e w' => ∃ v0_ : Value, e = .returned (.tuple #[v0_, .int .i64 r2]) ∧ Kd.R k45 45 w' w.heap.size (fun _ => True) v0_ r1 ∧ Below w.heap.size w w' := by
  have hu62 := Try.underlying62
  have hu64 := Try.underlying64
  have HR1 := Aside0.mk hr1
  have HC1 := Aside0.mk hc1
  clear hr1 hc1
  have HR2 := Aside0.mk hr2
  have HC2 := Aside0.mk hc2
  clear hr2 hc2
  have HB := Aside0.mk (Below.refl w.heap.size w)
  have H : ((notice_Check.f k a0_0 a0_1 a0_2 l1 l2).bind fun t102 => (if t102 = 0 then (if Hw.okLoss l2 = true then (notice_Serve.l0 k l2 ([] : List (S45)) l1 (l1.length : Int) 0 a0_0 a0_1 a0_2) else none) else (some (([] : List (S45)), t102)))) = some (r1, r2) := h
  clear h
  replace H := Option.bind_eq_some_iff.mp H
  obtain ⟨t102, A40, H⟩ := H
  replace H : (if t102 = 0 then (if Hw.okLoss l2 = true then (notice_Serve.l0 k l2 ([] : List (S45)) l1 (l1.length : Int) 0 a0_0 a0_1 a0_2) else none) else (some (([] : List (S45)), t102))) = some (r1, r2) := H
  have A4 := Aside0.mk A40
  clear A40
  by_cases c5 : t102 = 0
  · rw [if_pos c5] at H
    by_cases cok : Hw.okLoss l2 = true
    rotate_left
    · rw [if_neg cok] at H; exact absurd H (by simp)
    rw [if_pos cok] at H
    have c5b0 : (t102 == 0) = true := beq_iff_eq.mpr c5
    have c5b1 : (t102 != 0) = false := bne_eq_false_iff_eq.mpr c5
    clear c5
    have H' := Aside0.mk H
    clear H
    have hmm := @run_makeMap Try.prog
    go_enter Try.func38, Try.ntmps38
    go_wp2_with (first | ((with_reducible refine gate_dst (N := 3) rfl ?_); refine box_event ?hg (N := 3) ?hd (cs := #[.int .i64 a0_0, .int .i64 a0_1, .int .i64 a0_2]) (t := 62) ?hr ?_; (case hd => rfl); (case hg => rfl); (case hr => first | (go_simp; done) | (go_simp; rfl)); intro gb101 hg w6 hbox hb; have n0_ := Aside0.mk (below_step (by repeat (first | (with_reducible first | exact HB.out | apply below_alloc | apply pw_below_drewN | apply below_drew1) | exact HB.out)) hb); have n1_ := Aside0.mk (hbox); have n2_ := Aside0.mk ((by rw [hg]; exact (below_size (by repeat (first | (with_reducible first | exact HB.out | apply below_alloc | apply pw_below_drewN | apply below_drew1) | exact HB.out))) : w.heap.size ≤ gb101)); have n3_ := Aside0.mk ((by rw [hg]; exact (below_size (by repeat (first | (with_reducible first | exact HB.out | apply below_alloc | apply pw_below_drewN | apply below_drew1) | exact HB.out))) : w.heap.size ≤ gb101)); clear HB; have HB := n0_; have BK101 := n1_; have GW101 := n2_; have GE101 := n3_; clear n0_ n1_ n2_ n3_; clear hb hbox hg; have hcz7_0 : w6.cell? ⟨gb101, 0, none⟩ = some (.int .i64 a0_0) := (blk_cell BK101.out 0).trans rfl; have hcz7_1 : w6.cell? ⟨gb101, 1, none⟩ = some (.int .i64 a0_1) := (blk_cell BK101.out 1).trans rfl; have hcz7_2 : w6.cell? ⟨gb101, 2, none⟩ = some (.int .i64 a0_2) := (blk_cell BK101.out 2).trans rfl; have hfz7_0 := blk_frozen BK101.out 0; have hfz7_1 := blk_frozen BK101.out 1; have hfz7_2 := blk_frozen BK101.out 2) | ((with_reducible refine gate_callee (f := 45) rfl ?_); refine goesL_ (some 18) rfl rfl Try.func45 (by kernel_rfl) rfl #[.agg #[.int .i64 a0_0, .int .i64 a0_1, .int .i64 a0_2], .slice A1 l1.length c1, .slice A2 l2.length c2] rfl (by (try simp only [List.map_toArray, List.map_cons, List.map_nil]); first | done | rfl | (simp only [List.length_drop, List.length_take]; rfl)) ?_; (with_reducible refine (notice_Check.calls k a0_0 a0_1 a0_2 _ _ l1 _ _ l2 t102 _ ?side1 ?side2 ?side3 ?side4 A4.out).mono ?_); (case side1 => repeat (first | exact (Kd.C_below HR1.out HB.out) | (with_reducible refine Kd.C_alloc ?_ _) | (with_reducible refine Kd.C_drewN ?_ _) | (with_reducible refine Kd.C_drew ?_))); (case side2 => exact HC1.out); (case side3 => repeat (first | exact (Kd.C_below HR2.out HB.out) | (with_reducible refine Kd.C_alloc ?_ _) | (with_reducible refine Kd.C_drewN ?_ _) | (with_reducible refine Kd.C_drew ?_))); (case side4 => exact HC2.out); rintro e w8 ⟨rfl, hb⟩; refine ⟨_, rfl, ?_⟩; have n0_ := Aside0.mk (blk_below (g := gb101) (o := .cells #[.int .i64 a0_0, .int .i64 a0_1, .int .i64 a0_2] 62 (0, 0)) (by (with_reducible repeat (first | refine blk_drewN ?_ _ | refine blk_drew ?_ | refine blk_alloc ?_ _)); exact BK101.out) hb); have n1_ := Aside0.mk (below_step (by repeat (first | (with_reducible first | exact HB.out | apply below_alloc | apply pw_below_drewN | apply below_drew1 | refine below_set ?_ GE101.out) | exact HB.out)) hb); clear BK101; clear HB; have BK101 := n0_; have HB := n1_; clear n0_ n1_; (try clear hb); (try clear hb2); (try clear hk); (try clear hi)))
    have NBm0 : gb101 ≠ w8.heap.size := Nat.ne_of_lt (blk_lt BK101.out)
    have GM0 : w.heap.size ≤ w8.heap.size := below_size HB.out
    have HS0 : Hw.IsSet (w8.alloc (.map #[] 0)) w8.heap.size [] := Hw.IsSet.made w8
    have HBl : Below w.heap.size w (w8.alloc (.map #[] 0)) := below_alloc HB.out _
    have HBk : (w8.alloc (.map #[] 0)).heap[gb101]? = some (.cells #[.int .i64 a0_0, .int .i64 a0_1, .int .i64 a0_2] 62 (0, 0)) := blk_alloc BK101.out _
    clear HB BK101
    try clear hcz7_0 hcz7_1 hcz7_2 hfz7_0 hfz7_1 hfz7_2
    generalize w8.alloc (.map #[] 0) = wm at HS0 HBl HBk ⊢
    generalize w8.heap.size = gm at NBm0 GM0 HS0 ⊢
    have hu69 := Try.underlying69
    go_loopw [25] (fun v25 wr => ∃ j : Nat, j ≤ l2.length ∧ v25 = .int .i64 j ∧ Hw.IsSet wr gm (l2.take j) ∧ wr.heap[gb101]? = some (.cells #[.int .i64 a0_0, .int .i64 a0_1, .int .i64 a0_2] 62 (0, 0)) ∧ Below w.heap.size w wr) (fun v25 _ => l2.length - (intOf v25).toNat)
    case atStart => exact ⟨0, Nat.zero_le _, rfl, by simpa using HS0, HBk, HBl⟩
    case round =>
      obtain ⟨j, hj, rfl, HSj, BKj, HBj⟩ := hrel
      clear HS0 HBk HBl
      by_cases hlt : j < l2.length
      · have hd0 : decide ((j : Int) < (l2.length : Int)) = true := decide_eq_true (by omega)
        have p0 : 0 ≤ (j : Int) := Int.natCast_nonneg j
        have q0 : (j : Int) < (l2.length : Int) := by omega
        have y0 := Hw.okLoss_at cok hlt
        have y1 := Hw.okLoss_len cok j
        have y2 := Hw.take_step l2 hlt
        have y3 := Hw.wrap_step cok hlt
        obtain ⟨ad2, e2, hx0, hx1, hx2⟩ := at_T69 HR2.out (j : Int) p0 q0
        cases e2
        replace hx0 := (HBj.cell (World.block_lt_of_cell? w _ hx0)).trans hx0
        replace hx1 := (HBj.cell (World.block_lt_of_cell? w _ hx1)).trans hx1
        replace hx2 := (HBj.cell (World.block_lt_of_cell? w _ hx2)).trans hx2
        rw [Int.toNat_natCast] at hx0 hx1 hx2
        replace p0 := eq_true p0
        replace q0 := eq_true q0
        go_wp2_with (first | ((with_reducible refine gate_dst (N := 11) rfl ?_); refine box_event ?hg (N := 11) ?hd (cs := #[.int .i64 0, .int .i64 0, .bool false]) (t := 69) ?hr ?_; (case hd => rfl); (case hg => rfl); (case hr => first | (go_simp; done) | (go_simp; rfl)); intro gn hg wn hbox hb; have m0_ := Hw.IsSet.below HSj hb; have m1_ := blk_below BKj hb; have m2_ := below_step HBj hb; have m3_ : w.heap.size ≤ gn := (by rw [hg]; exact below_size HBj); have m4_ : gb101 ≠ gn := (by rw [hg]; exact Nat.ne_of_lt (blk_lt BKj)); have m5_ : gm ≠ gn := (by rw [hg]; exact Nat.ne_of_lt HSj.lt); have hz0 : wn.cell? ⟨gn, 0, none⟩ = some (.int .i64 0) := (blk_cell hbox 0).trans rfl; have hz1 : wn.cell? ⟨gn, 1, none⟩ = some (.int .i64 0) := (blk_cell hbox 1).trans rfl; have hz2 : wn.cell? ⟨gn, 2, none⟩ = some (.bool false) := (blk_cell hbox 2).trans rfl; have hf0 := blk_frozen hbox 0; have hf1 := blk_frozen hbox 1; have hf2 := blk_frozen hbox 2; clear hb hbox hg) | ((with_reducible refine Hw.gate_put (t := 76) rfl ?_); refine Hw.putL_ rfl rfl rfl (g := gm) (l := l2.take j) (rd_T69 l2 j) ?sm ?sx ?sv ?ss y0.1 y0.2 y1 ?_; (case sm => rfl); (case sx => rfl); (case sv => rfl); (case ss => repeat (first | exact m0_ | refine Hw.IsSet.far ?_ m5_ _)); intro wo HSo hgo; have n1_ : wo.heap[gb101]? = some (.cells #[.int .i64 a0_0, .int .i64 a0_1, .int .i64 a0_2] 62 (0, 0)) := (blk_grown (by repeat (first | exact m1_ | refine blk_far ?_ m4_ _)) hgo (fun e => NBm0 (Option.some.inj e))); have n2_ : Below w.heap.size w wo := Hw.below_grownM (by repeat (first | exact m2_ | refine below_set ?_ m3_)) hgo GM0))
        go_roundw
        case rel => exact ⟨j + 1, hlt, by first | rw [y3] | (simp only [y3]; done) | go_num, by rw [y2]; exact HSo, n1_, n2_⟩
        case measure => exact Hw.meas_step y3 hlt
      · have hd0 : decide ((j : Int) < (l2.length : Int)) = false := decide_eq_false (by omega)
        have ej : j = l2.length := by omega
        subst ej
        rw [List.take_length] at HSj
        obtain ⟨es, ck, BKm0, hset⟩ := HSj.obj
        have BK101 := Aside0.mk BKj
        have BKm := Aside0.mk BKm0
        have HB := Aside0.mk HBj
        clear HSj BKj HBj BKm0
        go_wp2
        go_loopg [12, 34] k (fun kq v12 v34 w' => ∃ (x12_1 : List (S45)) (x34_1 : Int), v34 = .int .i64 x34_1 ∧ Aside0 (notice_Serve.l0 kq l2 x12_1 l1 (l1.length : Int) x34_1 a0_0 a0_1 a0_2 = some (r1, r2)) ∧ Aside0 (kq ≤ k) ∧ Aside0 (Kd.R k45 45 w' w.heap.size (fun _ => True) v12 x12_1) ∧ Aside0 (w'.heap[gb101]? = some (.cells #[.int .i64 a0_0, .int .i64 a0_1, .int .i64 a0_2] 62 (0, 0))) ∧ Aside0 (w'.heap[gm]? = some (.map es ck)) ∧ Aside0 (Below w.heap.size w w'))
        case atStart => exact ⟨(([] : List (S45))), (0), (by first | rfl | (simp; done) | (simp [*]; done)), H', ⟨Nat.le_refl _⟩, ⟨by first | exact Kd.R_nil _ _ _ _ _ | exact Kd.N_nil _ _ _ _ _ | exact Kd.V_nil _ _ _ _ _ | exact Kd.Q_nil _ _ _ _ _ | exact Kd.S_nil _ _ _ _ _⟩, ⟨by (with_reducible repeat (first | refine blk_drewN ?_ _ | refine blk_drew ?_ | refine blk_alloc ?_ _)); exact BK101.out⟩, ⟨by (with_reducible repeat (first | refine blk_drewN ?_ _ | refine blk_drew ?_ | refine blk_alloc ?_ _)); exact BKm.out⟩, ⟨by repeat (first | (with_reducible first | exact HB.out | apply below_alloc | apply pw_below_drewN | apply below_drew1 | refine below_set ?_ GE101.out) | exact HB.out)⟩⟩
        case round =>
          clear H'
          try clear c1
          try clear c2
          try clear p2
          try clear c3
          try clear c4
          try clear c5
          try clear c5b0
          try clear c5b1
          try clear hcz7_0
          try clear hcz7_1
          try clear hcz7_2
          try clear hfz7_0
          try clear hfz7_1
          try clear hfz7_2
          obtain ⟨x12_1, x34_1, rfl, HA, HK1, HO_12, BK101, BKm, HB⟩ := hrel
          cases gk with
          | zero => exact absurd HA.out (by simp [notice_Serve.l0])
          | succ k1 =>
            have H := HA.out
            clear HA
            simp only [notice_Serve.l0] at H
            by_cases c9 : x34_1 < (l1.length : Int)
            · rw [if_pos c9] at H
              have c9b0 : decide (x34_1 < (l1.length : Int)) = true := decide_eq_true c9
              clear c9
              by_cases c10 : 0 ≤ x34_1
              · rw [if_pos c10] at H
                have c10b0 : decide (0 ≤ x34_1) = true := decide_eq_true c10
                clear c10
                by_cases c11 : x34_1 < (l1.length : Int)
                · rw [if_pos c11] at H
                  have c11b0 : decide (x34_1 < (l1.length : Int)) = true := decide_eq_true c11
                  clear c11
                  replace H := Option.bind_eq_some_iff.mp H
                  obtain ⟨⟨t105, t106, t107, t108⟩, A120, H⟩ := H
                  replace H : (if x12_1.length < 4398046511104 then (notice_Serve.l0 k1 l2 (x12_1 ++ [(⟨t105, t106, t107, t108⟩ : S45)]) l1 (l1.length : Int) (wrap64 (x34_1 + 1)) a0_0 a0_1 a0_2) else (none)) = some (r1, r2) := H
                  have A12 := Aside0.mk A120
                  clear A120
                  by_cases c13 : x12_1.length < 4398046511104
                  · rw [if_pos c13] at H
                    have LMc13 := Aside0.mk c13
                    clear c13
                    obtain ⟨y109, hy109⟩ : ∃ y_ : List (S45), y_ = (x12_1 ++ [(⟨t105, t106, t107, t108⟩ : S45)]) := ⟨_, rfl⟩
                    replace H : (notice_Serve.l0 k1 l2 y109 l1 (l1.length : Int) (wrap64 (x34_1 + 1)) a0_0 a0_1 a0_2) = some (r1, r2) := by first | (rw [hy109]; with_reducible exact H) | (have H2_ := (Option.bind_some _ _).symm.trans H; rw [hy109]; with_reducible exact H2_) | (have H2_ := (Option.bind_some _ _).symm.trans H; with_reducible exact H2_) | with_reducible exact H | (rw [hy109]; exact H) | exact H
                    have Ny109 := Aside0.mk hy109
                    clear hy109
                    have H' := Aside0.mk H
                    clear H
                    have p103 : 0 ≤ (x34_1 : Int) := of_decide_eq_true (by first | (with_reducible assumption) | assumption)
                    have q103 : x34_1 < (l1.length : Int) := of_decide_eq_true (by first | (with_reducible assumption) | assumption)
                    obtain ⟨ad103, e103, hx103_0, hx103_1⟩ := at_T64 HR1.out x34_1 p103 q103
                    cases e103
                    replace hx103_0 := (HB.out.cell (World.block_lt_of_cell? w _ hx103_0)).trans hx103_0
                    replace hx103_1 := (HB.out.cell (World.block_lt_of_cell? w _ hx103_1)).trans hx103_1
                    replace p103 := eq_true p103
                    replace q103 := eq_true q103
                    go_wp2_with (first | ((with_reducible refine gate_dst (N := 14) rfl ?_); refine box_event ?hg (N := 14) ?hd (cs := #[.int .i64 0, .int .i64 0]) (t := 64) ?hr ?_; (case hd => rfl); (case hg => rfl); (case hr => first | (go_simp; done) | (go_simp; rfl)); intro gb104 hg w14 hbox hb; have n0_ := Aside0.mk (Kd.R_below (by (with_reducible repeat (first | apply Kd.R_alloc | apply Kd.R_drewN | apply Kd.R_drew)); exact HO_12.out) hb); have n1_ := Aside0.mk (blk_below (g := gb101) (o := .cells #[.int .i64 a0_0, .int .i64 a0_1, .int .i64 a0_2] 62 (0, 0)) (by (with_reducible repeat (first | refine blk_drewN ?_ _ | refine blk_drew ?_ | refine blk_alloc ?_ _)); exact BK101.out) hb); have nm_ := Aside0.mk (blk_below (g := gm) (o := .map es ck) (by (with_reducible repeat (first | refine blk_drewN ?_ _ | refine blk_drew ?_ | refine blk_alloc ?_ _)); exact BKm.out) hb); have n2_ := Aside0.mk (below_step (by repeat (first | (with_reducible first | exact HB.out | apply below_alloc | apply pw_below_drewN | apply below_drew1 | refine below_set ?_ GE101.out) | exact HB.out)) hb); have n3_ := Aside0.mk (hbox); have n4_ := Aside0.mk ((by rw [hg]; exact (below_size (by repeat (first | (with_reducible first | exact HB.out | apply below_alloc | apply pw_below_drewN | apply below_drew1 | refine below_set ?_ GE101.out) | exact HB.out))) : w.heap.size ≤ gb104)); have n5_ := Aside0.mk ((by rw [hg]; exact (below_size (by repeat (first | (with_reducible first | exact HB.out | apply below_alloc | apply pw_below_drewN | apply below_drew1 | refine below_set ?_ GE101.out) | exact HB.out))) : w.heap.size ≤ gb104)); have n6_ := Aside0.mk ((by rw [hg]; exact Nat.ne_of_lt (blk_lt (g := gb101) (o := .cells #[.int .i64 a0_0, .int .i64 a0_1, .int .i64 a0_2] 62 (0, 0)) (by (with_reducible repeat (first | refine blk_drewN ?_ _ | refine blk_drew ?_ | refine blk_alloc ?_ _)); exact BK101.out)) : gb101 ≠ gb104)); have nq_ := Aside0.mk ((by rw [hg]; exact Nat.ne_of_lt (blk_lt (g := gm) (o := .map es ck) (by (with_reducible repeat (first | refine blk_drewN ?_ _ | refine blk_drew ?_ | refine blk_alloc ?_ _)); exact BKm.out)) : gm ≠ gb104)); have n7_ := Aside0.mk ((by rw [hg]; exact Nat.ne_of_gt (blk_lt (g := gb101) (o := .cells #[.int .i64 a0_0, .int .i64 a0_1, .int .i64 a0_2] 62 (0, 0)) (by (with_reducible repeat (first | refine blk_drewN ?_ _ | refine blk_drew ?_ | refine blk_alloc ?_ _)); exact BK101.out)) : gb104 ≠ gb101)); clear HO_12; clear BK101; clear BKm; clear HB; have HO_12 := n0_; have BK101 := n1_; have BKm := nm_; have HB := n2_; have BK104 := n3_; have GW104 := n4_; have GE104 := n5_; have NB101_104 := n6_; have NBm_104 := nq_; have NB104_101 := n7_; try clear nq_; clear nm_ n0_ n1_ n2_ n3_ n4_ n5_ n6_ n7_; clear hb hbox hg; have hnb15 := NB104_101.out; have hnc15 := NB101_104.out; have hcz16_0 : w14.cell? ⟨gb104, 0, none⟩ = some (.int .i64 0) := (blk_cell BK104.out 0).trans rfl; have hcz16_1 : w14.cell? ⟨gb104, 1, none⟩ = some (.int .i64 0) := (blk_cell BK104.out 1).trans rfl; have hfz16_0 := blk_frozen BK104.out 0; have hfz16_1 := blk_frozen BK104.out 1; have hcz17_0 : w14.cell? ⟨gb101, 0, none⟩ = some (.int .i64 a0_0) := (blk_cell BK101.out 0).trans rfl; have hcz17_1 : w14.cell? ⟨gb101, 1, none⟩ = some (.int .i64 a0_1) := (blk_cell BK101.out 1).trans rfl; have hcz17_2 : w14.cell? ⟨gb101, 2, none⟩ = some (.int .i64 a0_2) := (blk_cell BK101.out 2).trans rfl; have hfz17_0 := blk_frozen BK101.out 0; have hfz17_1 := blk_frozen BK101.out 1; have hfz17_2 := blk_frozen BK101.out 2) | ((with_reducible refine gate_callee (f := 46) rfl ?_); refine goesL_ (some 44) rfl rfl Try.func46 (by kernel_rfl) rfl #[.agg #[.int .i64 a0_0, .int .i64 a0_1, .int .i64 a0_2], .agg #[.int .i64 ((rd_T64 l1 x34_1).f0), .int .i64 ((rd_T64 l1 x34_1).f1)], .int .i64 x34_1, .map (some gm)] rfl (by (try simp only [List.map_toArray, List.map_cons, List.map_nil]); first | done | rfl | (simp only [List.length_drop, List.length_take]; rfl)) ?_; (with_reducible refine (notice_serve.calls k1 a0_0 a0_1 a0_2 ((rd_T64 l1 x34_1).f0) ((rd_T64 l1 x34_1).f1) x34_1 _ l2 t105 t106 t107 t108 _ ?side1 A12.out).mono ?_); (case side1 => exact hset _ _ (by (with_reducible repeat (first | refine blk_drewN ?_ _ | refine blk_drew ?_ | refine blk_alloc ?_ _)); refine Hw.blk_farM ?_ NBm_104.out _; (with_reducible repeat (first | refine blk_drewN ?_ _ | refine blk_drew ?_ | refine blk_alloc ?_ _)); refine Hw.blk_farM ?_ NBm_104.out _; (with_reducible repeat (first | refine blk_drewN ?_ _ | refine blk_drew ?_ | refine blk_alloc ?_ _)); exact BKm.out)); rintro e w18 ⟨rfl, hb⟩; refine ⟨_, rfl, ?_⟩; have n0_ := Aside0.mk (Kd.R_below (by (with_reducible repeat (first | apply Kd.R_alloc | apply Kd.R_drewN | apply Kd.R_drew)); exact (Kd.R_mono (Kd.R_far (p := ⟨gb104, 1, none⟩) (Kd.R_far (p := ⟨gb104, 0, none⟩) (Kd.R_types HO_12.out BK104.out (by decide)) (fun _ hk => hk.2) (.int .i64 ((rd_T64 l1 x34_1).f0))) (fun _ hk => hk.2) (.int .i64 ((rd_T64 l1 x34_1).f1))) (fun _ h_ => h_.1))) hb); have n1_ := Aside0.mk (blk_below (g := gb101) (o := .cells #[.int .i64 a0_0, .int .i64 a0_1, .int .i64 a0_2] 62 (0, 0)) (by (with_reducible repeat (first | refine blk_drewN ?_ _ | refine blk_drew ?_ | refine blk_alloc ?_ _)); refine blk_far ?_ NB101_104.out _; (with_reducible repeat (first | refine blk_drewN ?_ _ | refine blk_drew ?_ | refine blk_alloc ?_ _)); refine blk_far ?_ NB101_104.out _; (with_reducible repeat (first | refine blk_drewN ?_ _ | refine blk_drew ?_ | refine blk_alloc ?_ _)); exact BK101.out) hb); have nm_ := Aside0.mk (blk_below (g := gm) (o := .map es ck) (by (with_reducible repeat (first | refine blk_drewN ?_ _ | refine blk_drew ?_ | refine blk_alloc ?_ _)); refine Hw.blk_farM ?_ NBm_104.out _; (with_reducible repeat (first | refine blk_drewN ?_ _ | refine blk_drew ?_ | refine blk_alloc ?_ _)); refine Hw.blk_farM ?_ NBm_104.out _; (with_reducible repeat (first | refine blk_drewN ?_ _ | refine blk_drew ?_ | refine blk_alloc ?_ _)); exact BKm.out) hb); have n2_ := Aside0.mk (blk_below (g := gb104) (o := .cells #[.int .i64 ((rd_T64 l1 x34_1).f0), .int .i64 ((rd_T64 l1 x34_1).f1)] 64 (0, 0)) (by (with_reducible repeat (first | refine blk_drewN ?_ _ | refine blk_drew ?_ | refine blk_alloc ?_ _)); refine blk_put (cs := #[.int .i64 ((rd_T64 l1 x34_1).f0), .int .i64 0]) ?_ 1 _ rfl; (with_reducible repeat (first | refine blk_drewN ?_ _ | refine blk_drew ?_ | refine blk_alloc ?_ _)); refine blk_put (cs := #[.int .i64 0, .int .i64 0]) ?_ 0 _ rfl; (with_reducible repeat (first | refine blk_drewN ?_ _ | refine blk_drew ?_ | refine blk_alloc ?_ _)); exact BK104.out) hb); have n3_ := Aside0.mk (below_step (by repeat (first | (with_reducible first | exact HB.out | apply below_alloc | apply pw_below_drewN | apply below_drew1 | refine below_set ?_ GE101.out | refine below_set ?_ GE104.out) | exact HB.out)) hb); clear HO_12; clear BK101; clear BKm; clear BK104; clear HB; have HO_12 := n0_; have BK101 := n1_; have BKm := nm_; have BK104 := n2_; have HB := n3_; try clear nq_; clear nm_ n0_ n1_ n2_ n3_; (try clear hb); (try clear hb2); (try clear hk); (try clear hi)) | ((with_reducible refine gate_builtin (b := .append) (xs := #[.tmp 39, .tmp 45]) rfl ?_); at_builtin; refine Kd.R_append k45 (w0 := w) w.heap.size rfl (.tmp 39) (.tmp 45) 41 45 (.agg #[(.int .i64 0), (.int .i64 0), (.int .i64 0), (.bool false)]) 32 rfl Try.underlying41 info45 rfl (by decide) (by omega) u12 x12_1 (⟨t105, t106, t107, t108⟩ : S45) [.int .i64 t105, .int .i64 t106, .int .i64 t107, .bool t108] (fun _ => True) (fun _ => False) rfl rfl ?aP (fun _ hk => hk.elim) ?aF ?aO ?aB ?aS ?aL ?_; (case aP => exact k45_mkM _ _ _ (⟨t105, t106, t107, t108⟩ : S45)); (case aB => exact (by repeat (first | (with_reducible first | exact HB.out | apply below_alloc | apply pw_below_drewN | apply below_drew1 | refine below_set ?_ GE101.out | refine below_set ?_ GE104.out) | exact HB.out))); (case aF => exact (fun _ _ => trivial)); (case aO => exact (by (with_reducible repeat (first | apply Kd.R_alloc | apply Kd.R_drewN | apply Kd.R_drew)); exact HO_12.out)); (case aS => exact (below_size (by repeat (first | (with_reducible first | exact HB.out | apply below_alloc | apply pw_below_drewN | apply below_drew1 | refine below_set ?_ GE101.out | refine below_set ?_ GE104.out) | exact HB.out)))); (case aL => have := LMc13.out; omega); intro v110 w19 ho hb hg hat; rw [← Ny109.out] at ho; have n0_ := Aside0.mk (blk_grown (g := gb101) (o := .cells #[.int .i64 a0_0, .int .i64 a0_1, .int .i64 a0_2] 62 (0, 0)) (by (with_reducible repeat (first | refine blk_drewN ?_ _ | refine blk_drew ?_ | refine blk_alloc ?_ _)); exact BK101.out) hg (Kd.R_ne HO_12.out BK101.out (by decide))); have nm_ := Aside0.mk (blk_grown (g := gm) (o := .map es ck) (by (with_reducible repeat (first | refine blk_drewN ?_ _ | refine blk_drew ?_ | refine blk_alloc ?_ _)); exact BKm.out) hg (Hw.R_ne_map HO_12.out BKm.out)); have n1_ := Aside0.mk (blk_grown (g := gb104) (o := .cells #[.int .i64 ((rd_T64 l1 x34_1).f0), .int .i64 ((rd_T64 l1 x34_1).f1)] 64 (0, 0)) (by (with_reducible repeat (first | refine blk_drewN ?_ _ | refine blk_drew ?_ | refine blk_alloc ?_ _)); exact BK104.out) hg (Kd.R_ne HO_12.out BK104.out (by decide))); have n2_ := Aside0.mk (hb); have n3_ := Aside0.mk (ho); clear BK101; clear BKm; clear BK104; clear HB; clear HO_12; have BK101 := n0_; have BKm := nm_; have BK104 := n1_; have HB := n2_; have HO111 := n3_; try clear nq_; clear nm_ n0_ n1_ n2_ n3_; clear ho hb hg hat))
                    go_roundg k1
                    case measure => have := HK1.out; omega
                    case rel => exact ⟨(y109), (wrap64 (x34_1 + 1)), (by first | rfl | (simp; done) | (simp [*]; done)), H', ⟨by have := HK1.out; omega⟩, ⟨by (with_reducible repeat (first | apply Kd.R_alloc | apply Kd.R_drewN | apply Kd.R_drew)); exact HO111.out⟩, ⟨by (with_reducible repeat (first | refine blk_drewN ?_ _ | refine blk_drew ?_ | refine blk_alloc ?_ _)); exact BK101.out⟩, ⟨by (with_reducible repeat (first | refine blk_drewN ?_ _ | refine blk_drew ?_ | refine blk_alloc ?_ _)); exact BKm.out⟩, ⟨by repeat (first | (with_reducible first | exact HB.out | apply below_alloc | apply pw_below_drewN | apply below_drew1 | refine below_set ?_ GE101.out | refine below_set ?_ GE104.out) | exact HB.out)⟩⟩
                  · rw [if_neg c13] at H
                    exact absurd H (by simp)
                · rw [if_neg c11] at H
                  exact absurd H (by simp)
              · rw [if_neg c10] at H
                exact absurd H (by simp)
            · rw [if_neg c9] at H
              have c9b0 : decide (x34_1 < (l1.length : Int)) = false := decide_eq_false c9
              clear c9
              simp only [Option.some.injEq, Prod.mk.injEq] at H
              obtain ⟨rfl, rfl⟩ := H
              go_wp2
              go_ret2
              exact ⟨_, by first | rfl | (simp [errW_none, errW_some] <;> rfl) | (simp [*, errW_none, errW_some] <;> rfl), by (with_reducible repeat (first | apply Kd.R_alloc | apply Kd.R_drewN | apply Kd.R_drew)); exact HO_12.out, by repeat (first | (with_reducible first | exact HB.out | apply below_alloc | apply pw_below_drewN | apply below_drew1 | refine below_set ?_ GE101.out) | exact HB.out)⟩
  · rw [if_neg c5] at H
    have c5b0 : (t102 == 0) = false := beq_eq_false_iff_ne.mpr c5
    have c5b1 : (t102 != 0) = true := bne_iff_ne.mpr c5
    simp only [Option.some.injEq, Prod.mk.injEq] at H
    obtain ⟨rfl, rfl⟩ := H
    go_enter Try.func38, Try.ntmps38
    go_wp2_with (first | ((with_reducible refine gate_dst (N := 3) rfl ?_); refine box_event ?hg (N := 3) ?hd (cs := #[.int .i64 a0_0, .int .i64 a0_1, .int .i64 a0_2]) (t := 62) ?hr ?_; (case hd => rfl); (case hg => rfl); (case hr => first | (go_simp; done) | (go_simp; rfl)); intro gb101 hg w20 hbox hb; have n0_ := Aside0.mk (below_step (by repeat (first | (with_reducible first | exact HB.out | apply below_alloc | apply pw_below_drewN | apply below_drew1) | exact HB.out)) hb); have n1_ := Aside0.mk (hbox); have n2_ := Aside0.mk ((by rw [hg]; exact (below_size (by repeat (first | (with_reducible first | exact HB.out | apply below_alloc | apply pw_below_drewN | apply below_drew1) | exact HB.out))) : w.heap.size ≤ gb101)); have n3_ := Aside0.mk ((by rw [hg]; exact (below_size (by repeat (first | (with_reducible first | exact HB.out | apply below_alloc | apply pw_below_drewN | apply below_drew1) | exact HB.out))) : w.heap.size ≤ gb101)); clear HB; have HB := n0_; have BK101 := n1_; have GW101 := n2_; have GE101 := n3_; clear n0_ n1_ n2_ n3_; clear hb hbox hg; have hcz21_0 : w20.cell? ⟨gb101, 0, none⟩ = some (.int .i64 a0_0) := (blk_cell BK101.out 0).trans rfl; have hcz21_1 : w20.cell? ⟨gb101, 1, none⟩ = some (.int .i64 a0_1) := (blk_cell BK101.out 1).trans rfl; have hcz21_2 : w20.cell? ⟨gb101, 2, none⟩ = some (.int .i64 a0_2) := (blk_cell BK101.out 2).trans rfl; have hfz21_0 := blk_frozen BK101.out 0; have hfz21_1 := blk_frozen BK101.out 1; have hfz21_2 := blk_frozen BK101.out 2) | ((with_reducible refine gate_callee (f := 45) rfl ?_); refine goesL_ (some 18) rfl rfl Try.func45 (by kernel_rfl) rfl #[.agg #[.int .i64 a0_0, .int .i64 a0_1, .int .i64 a0_2], .slice A1 l1.length c1, .slice A2 l2.length c2] rfl (by (try simp only [List.map_toArray, List.map_cons, List.map_nil]); first | done | rfl | (simp only [List.length_drop, List.length_take]; rfl)) ?_; (with_reducible refine (notice_Check.calls k a0_0 a0_1 a0_2 _ _ l1 _ _ l2 t102 _ ?side1 ?side2 ?side3 ?side4 A4.out).mono ?_); (case side1 => repeat (first | exact (Kd.C_below HR1.out HB.out) | (with_reducible refine Kd.C_alloc ?_ _) | (with_reducible refine Kd.C_drewN ?_ _) | (with_reducible refine Kd.C_drew ?_))); (case side2 => exact HC1.out); (case side3 => repeat (first | exact (Kd.C_below HR2.out HB.out) | (with_reducible refine Kd.C_alloc ?_ _) | (with_reducible refine Kd.C_drewN ?_ _) | (with_reducible refine Kd.C_drew ?_))); (case side4 => exact HC2.out); rintro e w22 ⟨rfl, hb⟩; refine ⟨_, rfl, ?_⟩; have n0_ := Aside0.mk (blk_below (g := gb101) (o := .cells #[.int .i64 a0_0, .int .i64 a0_1, .int .i64 a0_2] 62 (0, 0)) (by (with_reducible repeat (first | refine blk_drewN ?_ _ | refine blk_drew ?_ | refine blk_alloc ?_ _)); exact BK101.out) hb); have n1_ := Aside0.mk (below_step (by repeat (first | (with_reducible first | exact HB.out | apply below_alloc | apply pw_below_drewN | apply below_drew1 | refine below_set ?_ GE101.out) | exact HB.out)) hb); clear BK101; clear HB; have BK101 := n0_; have HB := n1_; clear n0_ n1_; (try clear hb); (try clear hb2); (try clear hk); (try clear hi)))
    go_ret2
    exact ⟨_, by first | rfl | (simp [errW_none, errW_some] <;> rfl) | (simp [*, errW_none, errW_some] <;> rfl), by first | exact Kd.R_nil _ _ _ _ _ | exact Kd.N_nil _ _ _ _ _ | exact Kd.V_nil _ _ _ _ _ | exact Kd.Q_nil _ _ _ _ _ | exact Kd.S_nil _ _ _ _ _, by repeat (first | (with_reducible first | exact HB.out | apply below_alloc | apply pw_below_drewN | apply below_drew1 | refine below_set ?_ GE101.out) | exact HB.out)⟩

end Go.Proofs.Ytmlhckcnpfokaaa.D
