/- notice.serve comes to the Lean function 'notice_serve.f': the condition: the map is a set that holds just the losses of a list. -/
import Derived.Test.YtmlhckcnpfokaaaD0
import Derived.Test.YtmlhckcnpfokaaaGmap
import Derived.Test.YtmlhckcnpfokaaaDE1
namespace Go.Proofs.Ytmlhckcnpfokaaa.D
open Go.RowKit Go.Proofs.YtmlhckcnpfokaaaW.PrintWords Go.Proofs.YtmlhckcnpfokaaaW.PrintLast Go.Proofs.YtmlhckcnpfokaaaW.PrintMore
attribute [local go_sem] max2_int min2_int max_two min_two max_three min_three max_four min_four   -- for this text's walks alone
set_option linter.unusedVariables false
set_option linter.unusedSimpArgs false

/-! ### notice_serve: function 46 -/
def notice_serve.l0 : Nat → Int → List (S69) → Int → Int → Int → Int → Int → Int → Int → Int → Int → Int → Bool → Option (Int × Int × Int × Bool)
  | 0, _, _, _, _, _, _, _, _, _, _, _, _, _ => none
  | k + 1, x2, x3, x12, x13, x102000, x102001, x102002, x103000, x103001, x105000, x105001, x105002, x105003 => if x13 < x12 then ((Hw.look.f x3 x2 x13 false).bind fun t106 => (if t106 = true then (notice_serve.l0 k x2 x3 x12 (wrap64 (x13 + 1)) x102000 x102001 x102002 x103000 x103001 x105000 (wrap64 (x105001 + 1)) x105002 x105003) else (if x105002 = 0 then ((Hw.look.f x3 x2 x13 true).bind fun t107 => (if t107 = true then (notice_serve.l0 k x2 x3 x12 (wrap64 (x13 + 1)) x102000 x102001 x102002 x103000 x103001 (wrap64 (x103001 + (wrap64 (x102000 * x13)))) (wrap64 (x105001 + 1)) (wrap64 (x105002 + 1)) x105003) else (some (wrap64 (x103001 + (wrap64 (x102000 * x13))), wrap64 (x105001 + 1), wrap64 (x105002 + 1), true)))) else ((Hw.look.f x3 x2 x13 true).bind fun t108 => (if t108 = true then (notice_serve.l0 k x2 x3 x12 (wrap64 (x13 + 1)) x102000 x102001 x102002 x103000 x103001 x105000 (wrap64 (x105001 + 1)) (wrap64 (x105002 + 1)) x105003) else (some (x105000, wrap64 (x105001 + 1), wrap64 (x105002 + 1), true))))))) else ((notice_Latest.f x102000 x102001 x102002 x103000 x103001).bind fun t105 => (some (t105, x105001, x105002, x105003)))
def notice_serve.f (k : Nat) (a0_0 : Int) (a0_1 : Int) (a0_2 : Int) (a1_0 : Int) (a1_1 : Int) (a2 : Int) (l3 : List (S69)) : Option (Int × Int × Int × Bool) := notice_serve.l0 k a2 l3 a0_1 0 a0_0 a0_1 a0_2 a1_0 a1_1 0 0 0 false
theorem notice_serve.mono_l : ∀ k, (∀ y0 y1 y2 y3 y4 y5 y6 y7 y8 y9 y10 y11 y12, LeO (notice_serve.l0 k y0 y1 y2 y3 y4 y5 y6 y7 y8 y9 y10 y11 y12) (notice_serve.l0 (k + 1) y0 y1 y2 y3 y4 y5 y6 y7 y8 y9 y10 y11 y12))
  | 0 => fun _ _ _ _ _ _ _ _ _ _ _ _ _ r h => by simp [notice_serve.l0] at h
  | k + 1 => by
    have ih0 := notice_serve.mono_l k
    · intro y0 y1 y2 y3 y4 y5 y6 y7 y8 y9 y10 y11 y12
      unfold notice_serve.l0
      repeat' first
      | (with_reducible exact ih0 _ _ _ _ _ _ _ _ _ _ _ _ _)
      | (with_reducible exact LeO.refl _)
      | (with_reducible exact LeO.none _)
      | (with_reducible refine LeO.ite ?_ ?_)
      | (with_reducible refine LeO.bind ?_ (fun _ => ?_))
      | exact ih0 _ _ _ _ _ _ _ _ _ _ _ _ _
      | exact LeO.none _
      | refine LeO.ite ?_ ?_
      | refine LeO.bind ?_ (fun _ => ?_)
theorem notice_serve.mono : ∀ a0 a1 a2 a3 a4 a5 a6 k, LeO (notice_serve.f k a0 a1 a2 a3 a4 a5 a6) (notice_serve.f (k + 1) a0 a1 a2 a3 a4 a5 a6) := by
  intro a0 a1 a2 a3 a4 a5 a6 k
  have ih0 := notice_serve.mono_l k
  unfold notice_serve.f
  repeat' first
      | (with_reducible exact ih0 _ _ _ _ _ _ _ _ _ _ _ _ _)
      | (with_reducible exact LeO.refl _)
      | (with_reducible exact LeO.none _)
      | (with_reducible refine LeO.ite ?_ ?_)
      | (with_reducible refine LeO.bind ?_ (fun _ => ?_))
      | exact ih0 _ _ _ _ _ _ _ _ _ _ _ _ _
      | exact LeO.none _
      | refine LeO.ite ?_ ?_
      | refine LeO.bind ?_ (fun _ => ?_)
set_option maxHeartbeats 8000000 in
set_option maxRecDepth 100000 in
theorem notice_serve.calls (k : Nat) (a0_0 : Int) (a0_1 : Int) (a0_2 : Int) (a1_0 : Int) (a1_1 : Int) (a2 : Int) (g3 : Nat) (l3 : List (S69)) (r1 : Int) (r2 : Int) (r3 : Int) (r4 : Bool) (w : World) (hr3 : Hw.IsSet w g3 l3) (h : notice_serve.f k a0_0 a0_1 a0_2 a1_0 a1_1 a2 l3 = some (r1, r2, r3, r4)) :
    Calls Try.prog 46 #[.agg #[.int .i64 a0_0, .int .i64 a0_1, .int .i64 a0_2], .agg #[.int .i64 a1_0, .int .i64 a1_1], .int .i64 a2, .map (some g3)] w fun e w' => e = .returned (.agg #[.int .i64 r1, .int .i64 r2, .int .i64 r3, .bool r4]) ∧ Below w.heap.size w w' := by
  have hu62 := Try.underlying62
  have hu64 := Try.underlying64
  have hu45 := Try.underlying45
  have hu69 := Try.underlying69
  have HR3 := Aside0.mk hr3
  clear hr3
  have HB := Aside0.mk (Below.refl w.heap.size w)
  have H : (notice_serve.l0 k a2 l3 a0_1 0 a0_0 a0_1 a0_2 a1_0 a1_1 0 0 0 false) = some (r1, r2, r3, r4) := h
  clear h
  have H' := Aside0.mk H
  clear H
  go_enter Try.func46, Try.ntmps46
  go_wp2_with (first | ((with_reducible refine gate_dst (N := 4) rfl ?_); refine box_event ?hg (N := 4) ?hd (cs := #[.int .i64 a0_0, .int .i64 a0_1, .int .i64 a0_2]) (t := 62) ?hr ?_; (case hd => rfl); (case hg => rfl); (case hr => first | (go_simp; done) | (go_simp; rfl)); intro gb101 hg w5 hbox hb; have n0_ := Aside0.mk (below_step (by repeat (first | (with_reducible first | exact HB.out | apply below_alloc | apply pw_below_drewN | apply below_drew1) | exact HB.out)) hb); have n1_ := Aside0.mk (hbox); have n2_ := Aside0.mk ((by rw [hg]; exact (below_size (by repeat (first | (with_reducible first | exact HB.out | apply below_alloc | apply pw_below_drewN | apply below_drew1) | exact HB.out))) : w.heap.size ≤ gb101)); have n3_ := Aside0.mk ((by rw [hg]; exact (below_size (by repeat (first | (with_reducible first | exact HB.out | apply below_alloc | apply pw_below_drewN | apply below_drew1) | exact HB.out))) : w.heap.size ≤ gb101)); clear HB; have HB := n0_; have BK101 := n1_; have GW101 := n2_; have GE101 := n3_; clear n0_ n1_ n2_ n3_; clear hb hbox hg) | ((with_reducible refine gate_dst (N := 5) rfl ?_); refine box_event ?hg (N := 5) ?hd (cs := #[.int .i64 a1_0, .int .i64 a1_1]) (t := 64) ?hr ?_; (case hd => rfl); (case hg => rfl); (case hr => first | (go_simp; done) | (go_simp; rfl)); intro gb102 hg w6 hbox hb; have n0_ := Aside0.mk (blk_below (g := gb101) (o := .cells #[.int .i64 a0_0, .int .i64 a0_1, .int .i64 a0_2] 62 (0, 0)) (by (with_reducible repeat (first | refine blk_drewN ?_ _ | refine blk_drew ?_ | refine blk_alloc ?_ _)); exact BK101.out) hb); have n1_ := Aside0.mk (below_step (by repeat (first | (with_reducible first | exact HB.out | apply below_alloc | apply pw_below_drewN | apply below_drew1 | refine below_set ?_ GE101.out) | exact HB.out)) hb); have n2_ := Aside0.mk (hbox); have n3_ := Aside0.mk ((by rw [hg]; exact (below_size (by repeat (first | (with_reducible first | exact HB.out | apply below_alloc | apply pw_below_drewN | apply below_drew1 | refine below_set ?_ GE101.out) | exact HB.out))) : w.heap.size ≤ gb102)); have n4_ := Aside0.mk ((by rw [hg]; exact (below_size (by repeat (first | (with_reducible first | exact HB.out | apply below_alloc | apply pw_below_drewN | apply below_drew1 | refine below_set ?_ GE101.out) | exact HB.out))) : w.heap.size ≤ gb102)); have n5_ := Aside0.mk ((by rw [hg]; exact Nat.ne_of_lt (blk_lt (g := gb101) (o := .cells #[.int .i64 a0_0, .int .i64 a0_1, .int .i64 a0_2] 62 (0, 0)) (by (with_reducible repeat (first | refine blk_drewN ?_ _ | refine blk_drew ?_ | refine blk_alloc ?_ _)); exact BK101.out)) : gb101 ≠ gb102)); have n6_ := Aside0.mk ((by rw [hg]; exact Nat.ne_of_gt (blk_lt (g := gb101) (o := .cells #[.int .i64 a0_0, .int .i64 a0_1, .int .i64 a0_2] 62 (0, 0)) (by (with_reducible repeat (first | refine blk_drewN ?_ _ | refine blk_drew ?_ | refine blk_alloc ?_ _)); exact BK101.out)) : gb102 ≠ gb101)); clear BK101; clear HB; have BK101 := n0_; have HB := n1_; have BK102 := n2_; have GW102 := n3_; have GE102 := n4_; have NB101_102 := n5_; have NB102_101 := n6_; clear n0_ n1_ n2_ n3_ n4_ n5_ n6_; clear hb hbox hg) | ((with_reducible refine gate_dst (N := 8) rfl ?_); refine box_event ?hg (N := 8) ?hd (cs := #[.int .i64 0, .int .i64 0, .int .i64 0, .bool false]) (t := 45) ?hr ?_; (case hd => rfl); (case hg => rfl); (case hr => first | (go_simp; done) | (go_simp; rfl)); intro gb103 hg w7 hbox hb; have n0_ := Aside0.mk (blk_below (g := gb101) (o := .cells #[.int .i64 a0_0, .int .i64 a0_1, .int .i64 a0_2] 62 (0, 0)) (by (with_reducible repeat (first | refine blk_drewN ?_ _ | refine blk_drew ?_ | refine blk_alloc ?_ _)); exact BK101.out) hb); have n1_ := Aside0.mk (blk_below (g := gb102) (o := .cells #[.int .i64 a1_0, .int .i64 a1_1] 64 (0, 0)) (by (with_reducible repeat (first | refine blk_drewN ?_ _ | refine blk_drew ?_ | refine blk_alloc ?_ _)); exact BK102.out) hb); have n2_ := Aside0.mk (below_step (by repeat (first | (with_reducible first | exact HB.out | apply below_alloc | apply pw_below_drewN | apply below_drew1 | refine below_set ?_ GE101.out | refine below_set ?_ GE102.out) | exact HB.out)) hb); have n3_ := Aside0.mk (hbox); have n4_ := Aside0.mk ((by rw [hg]; exact (below_size (by repeat (first | (with_reducible first | exact HB.out | apply below_alloc | apply pw_below_drewN | apply below_drew1 | refine below_set ?_ GE101.out | refine below_set ?_ GE102.out) | exact HB.out))) : w.heap.size ≤ gb103)); have n5_ := Aside0.mk ((by rw [hg]; exact (below_size (by repeat (first | (with_reducible first | exact HB.out | apply below_alloc | apply pw_below_drewN | apply below_drew1 | refine below_set ?_ GE101.out | refine below_set ?_ GE102.out) | exact HB.out))) : w.heap.size ≤ gb103)); have n6_ := Aside0.mk ((by rw [hg]; exact Nat.ne_of_lt (blk_lt (g := gb101) (o := .cells #[.int .i64 a0_0, .int .i64 a0_1, .int .i64 a0_2] 62 (0, 0)) (by (with_reducible repeat (first | refine blk_drewN ?_ _ | refine blk_drew ?_ | refine blk_alloc ?_ _)); exact BK101.out)) : gb101 ≠ gb103)); have n7_ := Aside0.mk ((by rw [hg]; exact Nat.ne_of_gt (blk_lt (g := gb101) (o := .cells #[.int .i64 a0_0, .int .i64 a0_1, .int .i64 a0_2] 62 (0, 0)) (by (with_reducible repeat (first | refine blk_drewN ?_ _ | refine blk_drew ?_ | refine blk_alloc ?_ _)); exact BK101.out)) : gb103 ≠ gb101)); have n8_ := Aside0.mk ((by rw [hg]; exact Nat.ne_of_lt (blk_lt (g := gb102) (o := .cells #[.int .i64 a1_0, .int .i64 a1_1] 64 (0, 0)) (by (with_reducible repeat (first | refine blk_drewN ?_ _ | refine blk_drew ?_ | refine blk_alloc ?_ _)); exact BK102.out)) : gb102 ≠ gb103)); have n9_ := Aside0.mk ((by rw [hg]; exact Nat.ne_of_gt (blk_lt (g := gb102) (o := .cells #[.int .i64 a1_0, .int .i64 a1_1] 64 (0, 0)) (by (with_reducible repeat (first | refine blk_drewN ?_ _ | refine blk_drew ?_ | refine blk_alloc ?_ _)); exact BK102.out)) : gb103 ≠ gb102)); clear BK101; clear BK102; clear HB; have BK101 := n0_; have BK102 := n1_; have HB := n2_; have BK103 := n3_; have GW103 := n4_; have GE103 := n5_; have NB101_103 := n6_; have NB103_101 := n7_; have NB102_103 := n8_; have NB103_102 := n9_; clear n0_ n1_ n2_ n3_ n4_ n5_ n6_ n7_ n8_ n9_; clear hb hbox hg) | ((with_reducible refine gate_dst (N := 9) rfl ?_); refine box_event ?hg (N := 9) ?hd (cs := #[.int .i64 0, .int .i64 0, .int .i64 0, .bool false]) (t := 45) ?hr ?_; (case hd => rfl); (case hg => rfl); (case hr => first | (go_simp; done) | (go_simp; rfl)); intro gb104 hg w8 hbox hb; have n0_ := Aside0.mk (blk_below (g := gb101) (o := .cells #[.int .i64 a0_0, .int .i64 a0_1, .int .i64 a0_2] 62 (0, 0)) (by (with_reducible repeat (first | refine blk_drewN ?_ _ | refine blk_drew ?_ | refine blk_alloc ?_ _)); exact BK101.out) hb); have n1_ := Aside0.mk (blk_below (g := gb102) (o := .cells #[.int .i64 a1_0, .int .i64 a1_1] 64 (0, 0)) (by (with_reducible repeat (first | refine blk_drewN ?_ _ | refine blk_drew ?_ | refine blk_alloc ?_ _)); exact BK102.out) hb); have n2_ := Aside0.mk (blk_below (g := gb103) (o := .cells #[.int .i64 0, .int .i64 0, .int .i64 0, .bool false] 45 (0, 0)) (by (with_reducible repeat (first | refine blk_drewN ?_ _ | refine blk_drew ?_ | refine blk_alloc ?_ _)); exact BK103.out) hb); have n3_ := Aside0.mk (below_step (by repeat (first | (with_reducible first | exact HB.out | apply below_alloc | apply pw_below_drewN | apply below_drew1 | refine below_set ?_ GE101.out | refine below_set ?_ GE102.out | refine below_set ?_ GE103.out) | exact HB.out)) hb); have n4_ := Aside0.mk (hbox); have n5_ := Aside0.mk ((by rw [hg]; exact (below_size (by repeat (first | (with_reducible first | exact HB.out | apply below_alloc | apply pw_below_drewN | apply below_drew1 | refine below_set ?_ GE101.out | refine below_set ?_ GE102.out | refine below_set ?_ GE103.out) | exact HB.out))) : w.heap.size ≤ gb104)); have n6_ := Aside0.mk ((by rw [hg]; exact (below_size (by repeat (first | (with_reducible first | exact HB.out | apply below_alloc | apply pw_below_drewN | apply below_drew1 | refine below_set ?_ GE101.out | refine below_set ?_ GE102.out | refine below_set ?_ GE103.out) | exact HB.out))) : w.heap.size ≤ gb104)); have n7_ := Aside0.mk ((by rw [hg]; exact Nat.ne_of_lt (blk_lt (g := gb101) (o := .cells #[.int .i64 a0_0, .int .i64 a0_1, .int .i64 a0_2] 62 (0, 0)) (by (with_reducible repeat (first | refine blk_drewN ?_ _ | refine blk_drew ?_ | refine blk_alloc ?_ _)); exact BK101.out)) : gb101 ≠ gb104)); have n8_ := Aside0.mk ((by rw [hg]; exact Nat.ne_of_gt (blk_lt (g := gb101) (o := .cells #[.int .i64 a0_0, .int .i64 a0_1, .int .i64 a0_2] 62 (0, 0)) (by (with_reducible repeat (first | refine blk_drewN ?_ _ | refine blk_drew ?_ | refine blk_alloc ?_ _)); exact BK101.out)) : gb104 ≠ gb101)); have n9_ := Aside0.mk ((by rw [hg]; exact Nat.ne_of_lt (blk_lt (g := gb102) (o := .cells #[.int .i64 a1_0, .int .i64 a1_1] 64 (0, 0)) (by (with_reducible repeat (first | refine blk_drewN ?_ _ | refine blk_drew ?_ | refine blk_alloc ?_ _)); exact BK102.out)) : gb102 ≠ gb104)); have n10_ := Aside0.mk ((by rw [hg]; exact Nat.ne_of_gt (blk_lt (g := gb102) (o := .cells #[.int .i64 a1_0, .int .i64 a1_1] 64 (0, 0)) (by (with_reducible repeat (first | refine blk_drewN ?_ _ | refine blk_drew ?_ | refine blk_alloc ?_ _)); exact BK102.out)) : gb104 ≠ gb102)); have n11_ := Aside0.mk ((by rw [hg]; exact Nat.ne_of_lt (blk_lt (g := gb103) (o := .cells #[.int .i64 0, .int .i64 0, .int .i64 0, .bool false] 45 (0, 0)) (by (with_reducible repeat (first | refine blk_drewN ?_ _ | refine blk_drew ?_ | refine blk_alloc ?_ _)); exact BK103.out)) : gb103 ≠ gb104)); have n12_ := Aside0.mk ((by rw [hg]; exact Nat.ne_of_gt (blk_lt (g := gb103) (o := .cells #[.int .i64 0, .int .i64 0, .int .i64 0, .bool false] 45 (0, 0)) (by (with_reducible repeat (first | refine blk_drewN ?_ _ | refine blk_drew ?_ | refine blk_alloc ?_ _)); exact BK103.out)) : gb104 ≠ gb103)); clear BK101; clear BK102; clear BK103; clear HB; have BK101 := n0_; have BK102 := n1_; have BK103 := n2_; have HB := n3_; have BK104 := n4_; have GW104 := n5_; have GE104 := n6_; have NB101_104 := n7_; have NB104_101 := n8_; have NB102_104 := n9_; have NB104_102 := n10_; have NB103_104 := n11_; have NB104_103 := n12_; clear n0_ n1_ n2_ n3_ n4_ n5_ n6_ n7_ n8_ n9_ n10_ n11_ n12_; clear hb hbox hg; have hnb9 := NB101_102.out; have hnc9 := NB102_101.out; have hnb10 := NB101_103.out; have hnc10 := NB103_101.out; have hnb11 := NB101_104.out; have hnc11 := NB104_101.out; have hcz12_0 : w8.cell? ⟨gb101, 0, none⟩ = some (.int .i64 a0_0) := (blk_cell BK101.out 0).trans rfl; have hcz12_1 : w8.cell? ⟨gb101, 1, none⟩ = some (.int .i64 a0_1) := (blk_cell BK101.out 1).trans rfl; have hcz12_2 : w8.cell? ⟨gb101, 2, none⟩ = some (.int .i64 a0_2) := (blk_cell BK101.out 2).trans rfl; have hfz12_0 := blk_frozen BK101.out 0; have hfz12_1 := blk_frozen BK101.out 1; have hfz12_2 := blk_frozen BK101.out 2))
  go_loopg [13] k (fun kq v13 w' => ∃ (x13_1 : Int) (x104000_1 : Int) (x104001_1 : Int) (x104002_1 : Int) (x104003_1 : Bool) (x105000_1 : Int) (x105001_1 : Int) (x105002_1 : Int) (x105003_1 : Bool), v13 = .int .i64 x13_1 ∧ Aside0 (notice_serve.l0 kq a2 l3 a0_1 x13_1 a0_0 a0_1 a0_2 a1_0 a1_1 x105000_1 x105001_1 x105002_1 x105003_1 = some (r1, r2, r3, r4)) ∧ Aside0 (kq ≤ k) ∧ Aside0 (w'.heap[gb101]? = some (.cells #[.int .i64 a0_0, .int .i64 a0_1, .int .i64 a0_2] 62 (0, 0))) ∧ Aside0 (w'.heap[gb102]? = some (.cells #[.int .i64 a1_0, .int .i64 a1_1] 64 (0, 0))) ∧ Aside0 (w'.heap[gb103]? = some (.cells #[.int .i64 x104000_1, .int .i64 x104001_1, .int .i64 x104002_1, .bool x104003_1] 45 (0, 0))) ∧ Aside0 (w'.heap[gb104]? = some (.cells #[.int .i64 x105000_1, .int .i64 x105001_1, .int .i64 x105002_1, .bool x105003_1] 45 (0, 0))) ∧ Aside0 (Below w.heap.size w w'))
  case atStart => exact ⟨(0), (0), (0), (0), (false), (0), (0), (0), (false), (by first | rfl | (simp; done) | (simp [*]; done)), H', ⟨Nat.le_refl _⟩, ⟨by (with_reducible repeat (first | refine blk_drewN ?_ _ | refine blk_drew ?_ | refine blk_alloc ?_ _)); exact BK101.out⟩, ⟨by (with_reducible repeat (first | refine blk_drewN ?_ _ | refine blk_drew ?_ | refine blk_alloc ?_ _)); exact BK102.out⟩, ⟨by (with_reducible repeat (first | refine blk_drewN ?_ _ | refine blk_drew ?_ | refine blk_alloc ?_ _)); exact BK103.out⟩, ⟨by (with_reducible repeat (first | refine blk_drewN ?_ _ | refine blk_drew ?_ | refine blk_alloc ?_ _)); exact BK104.out⟩, ⟨by repeat (first | (with_reducible first | exact HB.out | apply below_alloc | apply pw_below_drewN | apply below_drew1 | refine below_set ?_ GE101.out | refine below_set ?_ GE102.out | refine below_set ?_ GE103.out | refine below_set ?_ GE104.out) | exact HB.out)⟩⟩
  case round =>
    clear H'
    try clear c1
    try clear p2
    try clear c3
    try clear c4
    try clear c9
    try clear c10
    try clear c11
    try clear hcz12_0
    try clear hcz12_1
    try clear hcz12_2
    try clear hfz12_0
    try clear hfz12_1
    try clear hfz12_2
    obtain ⟨x13_1, x104000_1, x104001_1, x104002_1, x104003_1, x105000_1, x105001_1, x105002_1, x105003_1, rfl, HA, HK1, BK101, BK102, BK103, BK104, HB⟩ := hrel
    cases gk with
    | zero => exact absurd HA.out (by simp [notice_serve.l0])
    | succ k1 =>
      have H := HA.out
      clear HA
      simp only [notice_serve.l0] at H
      by_cases c13 : x13_1 < a0_1
      · rw [if_pos c13] at H
        have c13b0 : decide (x13_1 < a0_1) = true := decide_eq_true c13
        clear c13
        replace H := Option.bind_eq_some_iff.mp H
        obtain ⟨t106, A140, H⟩ := H
        replace H : (if t106 = true then (notice_serve.l0 k1 a2 l3 a0_1 (wrap64 (x13_1 + 1)) a0_0 a0_1 a0_2 a1_0 a1_1 x105000_1 (wrap64 (x105001_1 + 1)) x105002_1 x105003_1) else (if x105002_1 = 0 then ((Hw.look.f l3 a2 x13_1 true).bind fun t107 => (if t107 = true then (notice_serve.l0 k1 a2 l3 a0_1 (wrap64 (x13_1 + 1)) a0_0 a0_1 a0_2 a1_0 a1_1 (wrap64 (a1_1 + (wrap64 (a0_0 * x13_1)))) (wrap64 (x105001_1 + 1)) (wrap64 (x105002_1 + 1)) x105003_1) else (some (wrap64 (a1_1 + (wrap64 (a0_0 * x13_1))), wrap64 (x105001_1 + 1), wrap64 (x105002_1 + 1), true)))) else ((Hw.look.f l3 a2 x13_1 true).bind fun t108 => (if t108 = true then (notice_serve.l0 k1 a2 l3 a0_1 (wrap64 (x13_1 + 1)) a0_0 a0_1 a0_2 a1_0 a1_1 x105000_1 (wrap64 (x105001_1 + 1)) (wrap64 (x105002_1 + 1)) x105003_1) else (some (x105000_1, wrap64 (x105001_1 + 1), wrap64 (x105002_1 + 1), true)))))) = some (r1, r2, r3, r4) := H
        have A14 := Aside0.mk A140
        clear A140
        by_cases c15 : t106 = true
        · subst c15
          have H1 : (notice_serve.l0 k1 a2 l3 a0_1 (wrap64 (x13_1 + 1)) a0_0 a0_1 a0_2 a1_0 a1_1 x105000_1 (wrap64 (x105001_1 + 1)) x105002_1 x105003_1) = some (r1, r2, r3, r4) := by rw [if_pos rfl] at H; exact H
          clear H
          have H := H1
          clear H1
          have H' := Aside0.mk H
          clear H
          have hnb16 := NB104_101.out
          have hnc16 := NB101_104.out
          have hnb17 := NB104_102.out
          have hnc17 := NB102_104.out
          have hnb18 := NB104_103.out
          have hnc18 := NB103_104.out
          have hcz19_0 : wr.cell? ⟨gb104, 0, none⟩ = some (.int .i64 x105000_1) := (blk_cell BK104.out 0).trans rfl
          have hcz19_1 : wr.cell? ⟨gb104, 1, none⟩ = some (.int .i64 x105001_1) := (blk_cell BK104.out 1).trans rfl
          have hcz19_2 : wr.cell? ⟨gb104, 2, none⟩ = some (.int .i64 x105002_1) := (blk_cell BK104.out 2).trans rfl
          have hcz19_3 : wr.cell? ⟨gb104, 3, none⟩ = some (.bool x105003_1) := (blk_cell BK104.out 3).trans rfl
          have hfz19_0 := blk_frozen BK104.out 0
          have hfz19_1 := blk_frozen BK104.out 1
          have hfz19_2 := blk_frozen BK104.out 2
          have hfz19_3 := blk_frozen BK104.out 3
          go_wp2_with (first | ((with_reducible refine Hw.gate_look (t := 76) rfl ?_); refine Hw.lookL_ (some 24) rfl rfl rfl ?sm ?sx (Hw.IsSet.below HR3.out (by repeat (first | (with_reducible first | exact HB.out | apply below_alloc | apply pw_below_drewN | apply below_drew1 | refine below_set ?_ GE101.out | refine below_set ?_ GE102.out | refine below_set ?_ GE103.out | refine below_set ?_ GE104.out) | exact HB.out))) a2 x13_1 false true A14.out ?_; (case sm => rfl); (case sx => rfl)))
          go_roundg k1
          case measure => have := HK1.out; omega
          case rel => exact ⟨(wrap64 (x13_1 + 1)), (x104000_1), (x104001_1), (x104002_1), (x104003_1), (x105000_1), (wrap64 (x105001_1 + 1)), (x105002_1), (x105003_1), (by first | rfl | (simp; done) | (simp [*]; done)), H', ⟨by have := HK1.out; omega⟩, ⟨by (with_reducible repeat (first | refine blk_drewN ?_ _ | refine blk_drew ?_ | refine blk_alloc ?_ _)); refine blk_far ?_ NB101_104.out _; (with_reducible repeat (first | refine blk_drewN ?_ _ | refine blk_drew ?_ | refine blk_alloc ?_ _)); exact BK101.out⟩, ⟨by (with_reducible repeat (first | refine blk_drewN ?_ _ | refine blk_drew ?_ | refine blk_alloc ?_ _)); refine blk_far ?_ NB102_104.out _; (with_reducible repeat (first | refine blk_drewN ?_ _ | refine blk_drew ?_ | refine blk_alloc ?_ _)); exact BK102.out⟩, ⟨by (with_reducible repeat (first | refine blk_drewN ?_ _ | refine blk_drew ?_ | refine blk_alloc ?_ _)); refine blk_far ?_ NB103_104.out _; (with_reducible repeat (first | refine blk_drewN ?_ _ | refine blk_drew ?_ | refine blk_alloc ?_ _)); exact BK103.out⟩, ⟨by (with_reducible repeat (first | refine blk_drewN ?_ _ | refine blk_drew ?_ | refine blk_alloc ?_ _)); refine blk_put (cs := #[.int .i64 x105000_1, .int .i64 x105001_1, .int .i64 x105002_1, .bool x105003_1]) ?_ 1 _ rfl; (with_reducible repeat (first | refine blk_drewN ?_ _ | refine blk_drew ?_ | refine blk_alloc ?_ _)); exact BK104.out⟩, ⟨by repeat (first | (with_reducible first | exact HB.out | apply below_alloc | apply pw_below_drewN | apply below_drew1 | refine below_set ?_ GE101.out | refine below_set ?_ GE102.out | refine below_set ?_ GE103.out | refine below_set ?_ GE104.out) | exact HB.out)⟩⟩
        · replace c15 := Bool.eq_false_iff.mpr c15
          subst c15
          have H1 : (if x105002_1 = 0 then ((Hw.look.f l3 a2 x13_1 true).bind fun t107 => (if t107 = true then (notice_serve.l0 k1 a2 l3 a0_1 (wrap64 (x13_1 + 1)) a0_0 a0_1 a0_2 a1_0 a1_1 (wrap64 (a1_1 + (wrap64 (a0_0 * x13_1)))) (wrap64 (x105001_1 + 1)) (wrap64 (x105002_1 + 1)) x105003_1) else (some (wrap64 (a1_1 + (wrap64 (a0_0 * x13_1))), wrap64 (x105001_1 + 1), wrap64 (x105002_1 + 1), true)))) else ((Hw.look.f l3 a2 x13_1 true).bind fun t108 => (if t108 = true then (notice_serve.l0 k1 a2 l3 a0_1 (wrap64 (x13_1 + 1)) a0_0 a0_1 a0_2 a1_0 a1_1 x105000_1 (wrap64 (x105001_1 + 1)) (wrap64 (x105002_1 + 1)) x105003_1) else (some (x105000_1, wrap64 (x105001_1 + 1), wrap64 (x105002_1 + 1), true))))) = some (r1, r2, r3, r4) := by rw [if_neg (show ¬ (false = true) by decide)] at H; exact H
          clear H
          have H := H1
          clear H1
          by_cases c20 : x105002_1 = 0
          · rw [if_pos c20] at H
            have c20b0 : (x105002_1 == 0) = true := beq_iff_eq.mpr c20
            have c20b1 : (x105002_1 != 0) = false := bne_eq_false_iff_eq.mpr c20
            clear c20
            replace H := Option.bind_eq_some_iff.mp H
            obtain ⟨t107, A210, H⟩ := H
            replace H : (if t107 = true then (notice_serve.l0 k1 a2 l3 a0_1 (wrap64 (x13_1 + 1)) a0_0 a0_1 a0_2 a1_0 a1_1 (wrap64 (a1_1 + (wrap64 (a0_0 * x13_1)))) (wrap64 (x105001_1 + 1)) (wrap64 (x105002_1 + 1)) x105003_1) else (some (wrap64 (a1_1 + (wrap64 (a0_0 * x13_1))), wrap64 (x105001_1 + 1), wrap64 (x105002_1 + 1), true))) = some (r1, r2, r3, r4) := H
            have A21 := Aside0.mk A210
            clear A210
            by_cases c22 : t107 = true
            · subst c22
              have H1 : (notice_serve.l0 k1 a2 l3 a0_1 (wrap64 (x13_1 + 1)) a0_0 a0_1 a0_2 a1_0 a1_1 (wrap64 (a1_1 + (wrap64 (a0_0 * x13_1)))) (wrap64 (x105001_1 + 1)) (wrap64 (x105002_1 + 1)) x105003_1) = some (r1, r2, r3, r4) := by rw [if_pos rfl] at H; exact H
              clear H
              have H := H1
              clear H1
              have H' := Aside0.mk H
              clear H
              have hnb23 := NB104_101.out
              have hnc23 := NB101_104.out
              have hnb24 := NB104_102.out
              have hnc24 := NB102_104.out
              have hnb25 := NB104_103.out
              have hnc25 := NB103_104.out
              have hcz26_0 : wr.cell? ⟨gb104, 0, none⟩ = some (.int .i64 x105000_1) := (blk_cell BK104.out 0).trans rfl
              have hcz26_1 : wr.cell? ⟨gb104, 1, none⟩ = some (.int .i64 x105001_1) := (blk_cell BK104.out 1).trans rfl
              have hcz26_2 : wr.cell? ⟨gb104, 2, none⟩ = some (.int .i64 x105002_1) := (blk_cell BK104.out 2).trans rfl
              have hcz26_3 : wr.cell? ⟨gb104, 3, none⟩ = some (.bool x105003_1) := (blk_cell BK104.out 3).trans rfl
              have hfz26_0 := blk_frozen BK104.out 0
              have hfz26_1 := blk_frozen BK104.out 1
              have hfz26_2 := blk_frozen BK104.out 2
              have hfz26_3 := blk_frozen BK104.out 3
              go_wp2_with (first | ((with_reducible refine Hw.gate_look (t := 76) rfl ?_); refine Hw.lookL_ (some 24) rfl rfl rfl ?sm ?sx (Hw.IsSet.below HR3.out (by repeat (first | (with_reducible first | exact HB.out | apply below_alloc | apply pw_below_drewN | apply below_drew1 | refine below_set ?_ GE101.out | refine below_set ?_ GE102.out | refine below_set ?_ GE103.out | refine below_set ?_ GE104.out) | exact HB.out))) a2 x13_1 false false A14.out ?_; (case sm => rfl); (case sx => rfl); have hnb27 := NB102_101.out; have hnc27 := NB101_102.out; have hnb28 := NB102_103.out; have hnc28 := NB103_102.out; have hcz29_0 : wr.cell? ⟨gb102, 0, none⟩ = some (.int .i64 a1_0) := (blk_cell BK102.out 0).trans rfl; have hcz29_1 : wr.cell? ⟨gb102, 1, none⟩ = some (.int .i64 a1_1) := (blk_cell BK102.out 1).trans rfl; have hfz29_0 := blk_frozen BK102.out 0; have hfz29_1 := blk_frozen BK102.out 1; have hnb30 := NB101_103.out; have hnc30 := NB103_101.out; have hcz31_0 : wr.cell? ⟨gb101, 0, none⟩ = some (.int .i64 a0_0) := (blk_cell BK101.out 0).trans rfl; have hcz31_1 : wr.cell? ⟨gb101, 1, none⟩ = some (.int .i64 a0_1) := (blk_cell BK101.out 1).trans rfl; have hcz31_2 : wr.cell? ⟨gb101, 2, none⟩ = some (.int .i64 a0_2) := (blk_cell BK101.out 2).trans rfl; have hfz31_0 := blk_frozen BK101.out 0; have hfz31_1 := blk_frozen BK101.out 1; have hfz31_2 := blk_frozen BK101.out 2) | ((with_reducible refine Hw.gate_look (t := 76) rfl ?_); refine Hw.lookL_ (some 44) rfl rfl rfl ?sm ?sx (Hw.IsSet.below HR3.out (by repeat (first | (with_reducible first | exact HB.out | apply below_alloc | apply pw_below_drewN | apply below_drew1 | refine below_set ?_ GE101.out | refine below_set ?_ GE102.out | refine below_set ?_ GE103.out | refine below_set ?_ GE104.out) | exact HB.out))) a2 x13_1 true true A21.out ?_; (case sm => rfl); (case sx => rfl)))
              go_roundg k1
              case measure => have := HK1.out; omega
              case rel => exact ⟨(wrap64 (x13_1 + 1)), (x104000_1), (x104001_1), (x104002_1), (x104003_1), (wrap64 (a1_1 + (wrap64 (a0_0 * x13_1)))), (wrap64 (x105001_1 + 1)), (wrap64 (x105002_1 + 1)), (x105003_1), (by first | rfl | (simp; done) | (simp [*]; done)), H', ⟨by have := HK1.out; omega⟩, ⟨by (with_reducible repeat (first | refine blk_drewN ?_ _ | refine blk_drew ?_ | refine blk_alloc ?_ _)); refine blk_far ?_ NB101_104.out _; (with_reducible repeat (first | refine blk_drewN ?_ _ | refine blk_drew ?_ | refine blk_alloc ?_ _)); refine blk_far ?_ NB101_104.out _; (with_reducible repeat (first | refine blk_drewN ?_ _ | refine blk_drew ?_ | refine blk_alloc ?_ _)); refine blk_far ?_ NB101_104.out _; (with_reducible repeat (first | refine blk_drewN ?_ _ | refine blk_drew ?_ | refine blk_alloc ?_ _)); exact BK101.out⟩, ⟨by (with_reducible repeat (first | refine blk_drewN ?_ _ | refine blk_drew ?_ | refine blk_alloc ?_ _)); refine blk_far ?_ NB102_104.out _; (with_reducible repeat (first | refine blk_drewN ?_ _ | refine blk_drew ?_ | refine blk_alloc ?_ _)); refine blk_far ?_ NB102_104.out _; (with_reducible repeat (first | refine blk_drewN ?_ _ | refine blk_drew ?_ | refine blk_alloc ?_ _)); refine blk_far ?_ NB102_104.out _; (with_reducible repeat (first | refine blk_drewN ?_ _ | refine blk_drew ?_ | refine blk_alloc ?_ _)); exact BK102.out⟩, ⟨by (with_reducible repeat (first | refine blk_drewN ?_ _ | refine blk_drew ?_ | refine blk_alloc ?_ _)); refine blk_far ?_ NB103_104.out _; (with_reducible repeat (first | refine blk_drewN ?_ _ | refine blk_drew ?_ | refine blk_alloc ?_ _)); refine blk_far ?_ NB103_104.out _; (with_reducible repeat (first | refine blk_drewN ?_ _ | refine blk_drew ?_ | refine blk_alloc ?_ _)); refine blk_far ?_ NB103_104.out _; (with_reducible repeat (first | refine blk_drewN ?_ _ | refine blk_drew ?_ | refine blk_alloc ?_ _)); exact BK103.out⟩, ⟨by (with_reducible repeat (first | refine blk_drewN ?_ _ | refine blk_drew ?_ | refine blk_alloc ?_ _)); refine blk_put (cs := #[.int .i64 (wrap64 (a1_1 + (wrap64 (a0_0 * x13_1)))), .int .i64 (wrap64 (x105001_1 + 1)), .int .i64 x105002_1, .bool x105003_1]) ?_ 2 _ rfl; (with_reducible repeat (first | refine blk_drewN ?_ _ | refine blk_drew ?_ | refine blk_alloc ?_ _)); refine blk_put (cs := #[.int .i64 x105000_1, .int .i64 (wrap64 (x105001_1 + 1)), .int .i64 x105002_1, .bool x105003_1]) ?_ 0 _ rfl; (with_reducible repeat (first | refine blk_drewN ?_ _ | refine blk_drew ?_ | refine blk_alloc ?_ _)); refine blk_put (cs := #[.int .i64 x105000_1, .int .i64 x105001_1, .int .i64 x105002_1, .bool x105003_1]) ?_ 1 _ rfl; (with_reducible repeat (first | refine blk_drewN ?_ _ | refine blk_drew ?_ | refine blk_alloc ?_ _)); exact BK104.out⟩, ⟨by repeat (first | (with_reducible first | exact HB.out | apply below_alloc | apply pw_below_drewN | apply below_drew1 | refine below_set ?_ GE101.out | refine below_set ?_ GE102.out | refine below_set ?_ GE103.out | refine below_set ?_ GE104.out) | exact HB.out)⟩⟩
            · replace c22 := Bool.eq_false_iff.mpr c22
              subst c22
              have H1 : (some (wrap64 (a1_1 + (wrap64 (a0_0 * x13_1))), wrap64 (x105001_1 + 1), wrap64 (x105002_1 + 1), true)) = some (r1, r2, r3, r4) := by rw [if_neg (show ¬ (false = true) by decide)] at H; exact H
              clear H
              have H := H1
              clear H1
              simp only [Option.some.injEq, Prod.mk.injEq] at H
              obtain ⟨rfl, rfl, rfl, rfl⟩ := H
              have hnb32 := NB104_101.out
              have hnc32 := NB101_104.out
              have hnb33 := NB104_102.out
              have hnc33 := NB102_104.out
              have hnb34 := NB104_103.out
              have hnc34 := NB103_104.out
              have hcz35_0 : wr.cell? ⟨gb104, 0, none⟩ = some (.int .i64 x105000_1) := (blk_cell BK104.out 0).trans rfl
              have hcz35_1 : wr.cell? ⟨gb104, 1, none⟩ = some (.int .i64 x105001_1) := (blk_cell BK104.out 1).trans rfl
              have hcz35_2 : wr.cell? ⟨gb104, 2, none⟩ = some (.int .i64 x105002_1) := (blk_cell BK104.out 2).trans rfl
              have hcz35_3 : wr.cell? ⟨gb104, 3, none⟩ = some (.bool x105003_1) := (blk_cell BK104.out 3).trans rfl
              have hfz35_0 := blk_frozen BK104.out 0
              have hfz35_1 := blk_frozen BK104.out 1
              have hfz35_2 := blk_frozen BK104.out 2
              have hfz35_3 := blk_frozen BK104.out 3
              go_wp2_with (first | ((with_reducible refine Hw.gate_look (t := 76) rfl ?_); refine Hw.lookL_ (some 24) rfl rfl rfl ?sm ?sx (Hw.IsSet.below HR3.out (by repeat (first | (with_reducible first | exact HB.out | apply below_alloc | apply pw_below_drewN | apply below_drew1 | refine below_set ?_ GE101.out | refine below_set ?_ GE102.out | refine below_set ?_ GE103.out | refine below_set ?_ GE104.out) | exact HB.out))) a2 x13_1 false false A14.out ?_; (case sm => rfl); (case sx => rfl); have hnb36 := NB102_101.out; have hnc36 := NB101_102.out; have hnb37 := NB102_103.out; have hnc37 := NB103_102.out; have hcz38_0 : wr.cell? ⟨gb102, 0, none⟩ = some (.int .i64 a1_0) := (blk_cell BK102.out 0).trans rfl; have hcz38_1 : wr.cell? ⟨gb102, 1, none⟩ = some (.int .i64 a1_1) := (blk_cell BK102.out 1).trans rfl; have hfz38_0 := blk_frozen BK102.out 0; have hfz38_1 := blk_frozen BK102.out 1; have hnb39 := NB101_103.out; have hnc39 := NB103_101.out; have hcz40_0 : wr.cell? ⟨gb101, 0, none⟩ = some (.int .i64 a0_0) := (blk_cell BK101.out 0).trans rfl; have hcz40_1 : wr.cell? ⟨gb101, 1, none⟩ = some (.int .i64 a0_1) := (blk_cell BK101.out 1).trans rfl; have hcz40_2 : wr.cell? ⟨gb101, 2, none⟩ = some (.int .i64 a0_2) := (blk_cell BK101.out 2).trans rfl; have hfz40_0 := blk_frozen BK101.out 0; have hfz40_1 := blk_frozen BK101.out 1; have hfz40_2 := blk_frozen BK101.out 2) | ((with_reducible refine Hw.gate_look (t := 76) rfl ?_); refine Hw.lookL_ (some 44) rfl rfl rfl ?sm ?sx (Hw.IsSet.below HR3.out (by repeat (first | (with_reducible first | exact HB.out | apply below_alloc | apply pw_below_drewN | apply below_drew1 | refine below_set ?_ GE101.out | refine below_set ?_ GE102.out | refine below_set ?_ GE103.out | refine below_set ?_ GE104.out) | exact HB.out))) a2 x13_1 true false A21.out ?_; (case sm => rfl); (case sx => rfl); have hcz41_0 : wr.cell? ⟨gb103, 0, none⟩ = some (.int .i64 x104000_1) := (blk_cell BK103.out 0).trans rfl; have hcz41_1 : wr.cell? ⟨gb103, 1, none⟩ = some (.int .i64 x104001_1) := (blk_cell BK103.out 1).trans rfl; have hcz41_2 : wr.cell? ⟨gb103, 2, none⟩ = some (.int .i64 x104002_1) := (blk_cell BK103.out 2).trans rfl; have hcz41_3 : wr.cell? ⟨gb103, 3, none⟩ = some (.bool x104003_1) := (blk_cell BK103.out 3).trans rfl; have hfz41_0 := blk_frozen BK103.out 0; have hfz41_1 := blk_frozen BK103.out 1; have hfz41_2 := blk_frozen BK103.out 2; have hfz41_3 := blk_frozen BK103.out 3))
              refine bodyPost_ret (results_cell_row rfl _ _ gb103 45 #[.int .i64 (wrap64 (a1_1 + (wrap64 (a0_0 * x13_1)))), .int .i64 (wrap64 (x105001_1 + 1)), .int .i64 (wrap64 (x105002_1 + 1)), .bool true] (0, 0) _ rfl (by (with_reducible repeat (first | refine blk_drewN ?_ _ | refine blk_drew ?_ | refine blk_alloc ?_ _)); refine blk_put (cs := #[.int .i64 (wrap64 (a1_1 + (wrap64 (a0_0 * x13_1)))), .int .i64 (wrap64 (x105001_1 + 1)), .int .i64 (wrap64 (x105002_1 + 1)), .bool x104003_1]) ?_ 3 _ rfl; (with_reducible repeat (first | refine blk_drewN ?_ _ | refine blk_drew ?_ | refine blk_alloc ?_ _)); refine blk_put (cs := #[.int .i64 (wrap64 (a1_1 + (wrap64 (a0_0 * x13_1)))), .int .i64 (wrap64 (x105001_1 + 1)), .int .i64 x104002_1, .bool x104003_1]) ?_ 2 _ rfl; (with_reducible repeat (first | refine blk_drewN ?_ _ | refine blk_drew ?_ | refine blk_alloc ?_ _)); refine blk_put (cs := #[.int .i64 (wrap64 (a1_1 + (wrap64 (a0_0 * x13_1)))), .int .i64 x104001_1, .int .i64 x104002_1, .bool x104003_1]) ?_ 1 _ rfl; (with_reducible repeat (first | refine blk_drewN ?_ _ | refine blk_drew ?_ | refine blk_alloc ?_ _)); refine blk_put (cs := #[.int .i64 x104000_1, .int .i64 x104001_1, .int .i64 x104002_1, .bool x104003_1]) ?_ 0 _ rfl; (with_reducible repeat (first | refine blk_drewN ?_ _ | refine blk_drew ?_ | refine blk_alloc ?_ _)); refine blk_far ?_ NB103_104.out _; (with_reducible repeat (first | refine blk_drewN ?_ _ | refine blk_drew ?_ | refine blk_alloc ?_ _)); refine blk_far ?_ NB103_104.out _; (with_reducible repeat (first | refine blk_drewN ?_ _ | refine blk_drew ?_ | refine blk_alloc ?_ _)); refine blk_far ?_ NB103_104.out _; (with_reducible repeat (first | refine blk_drewN ?_ _ | refine blk_drew ?_ | refine blk_alloc ?_ _)); refine blk_far ?_ NB103_104.out _; (with_reducible repeat (first | refine blk_drewN ?_ _ | refine blk_drew ?_ | refine blk_alloc ?_ _)); exact BK103.out) Try.underlying45 rfl (by kernel_rfl)) rfl ?_
              exact ⟨by first | rfl | (simp [errW_none, errW_some] <;> rfl) | (simp [*, errW_none, errW_some] <;> rfl), by repeat (first | (with_reducible first | exact HB.out | apply below_alloc | apply pw_below_drewN | apply below_drew1 | refine below_set ?_ GE101.out | refine below_set ?_ GE102.out | refine below_set ?_ GE103.out | refine below_set ?_ GE104.out) | exact HB.out)⟩
          · rw [if_neg c20] at H
            have c20b0 : (x105002_1 == 0) = false := beq_eq_false_iff_ne.mpr c20
            have c20b1 : (x105002_1 != 0) = true := bne_iff_ne.mpr c20
            replace H := Option.bind_eq_some_iff.mp H
            obtain ⟨t108, A420, H⟩ := H
            replace H : (if t108 = true then (notice_serve.l0 k1 a2 l3 a0_1 (wrap64 (x13_1 + 1)) a0_0 a0_1 a0_2 a1_0 a1_1 x105000_1 (wrap64 (x105001_1 + 1)) (wrap64 (x105002_1 + 1)) x105003_1) else (some (x105000_1, wrap64 (x105001_1 + 1), wrap64 (x105002_1 + 1), true))) = some (r1, r2, r3, r4) := H
            have A42 := Aside0.mk A420
            clear A420
            by_cases c43 : t108 = true
            · subst c43
              have H1 : (notice_serve.l0 k1 a2 l3 a0_1 (wrap64 (x13_1 + 1)) a0_0 a0_1 a0_2 a1_0 a1_1 x105000_1 (wrap64 (x105001_1 + 1)) (wrap64 (x105002_1 + 1)) x105003_1) = some (r1, r2, r3, r4) := by rw [if_pos rfl] at H; exact H
              clear H
              have H := H1
              clear H1
              have H' := Aside0.mk H
              clear H
              have hnb44 := NB104_101.out
              have hnc44 := NB101_104.out
              have hnb45 := NB104_102.out
              have hnc45 := NB102_104.out
              have hnb46 := NB104_103.out
              have hnc46 := NB103_104.out
              have hcz47_0 : wr.cell? ⟨gb104, 0, none⟩ = some (.int .i64 x105000_1) := (blk_cell BK104.out 0).trans rfl
              have hcz47_1 : wr.cell? ⟨gb104, 1, none⟩ = some (.int .i64 x105001_1) := (blk_cell BK104.out 1).trans rfl
              have hcz47_2 : wr.cell? ⟨gb104, 2, none⟩ = some (.int .i64 x105002_1) := (blk_cell BK104.out 2).trans rfl
              have hcz47_3 : wr.cell? ⟨gb104, 3, none⟩ = some (.bool x105003_1) := (blk_cell BK104.out 3).trans rfl
              have hfz47_0 := blk_frozen BK104.out 0
              have hfz47_1 := blk_frozen BK104.out 1
              have hfz47_2 := blk_frozen BK104.out 2
              have hfz47_3 := blk_frozen BK104.out 3
              go_wp2_with (first | ((with_reducible refine Hw.gate_look (t := 76) rfl ?_); refine Hw.lookL_ (some 24) rfl rfl rfl ?sm ?sx (Hw.IsSet.below HR3.out (by repeat (first | (with_reducible first | exact HB.out | apply below_alloc | apply pw_below_drewN | apply below_drew1 | refine below_set ?_ GE101.out | refine below_set ?_ GE102.out | refine below_set ?_ GE103.out | refine below_set ?_ GE104.out) | exact HB.out))) a2 x13_1 false false A14.out ?_; (case sm => rfl); (case sx => rfl)) | ((with_reducible refine Hw.gate_look (t := 76) rfl ?_); refine Hw.lookL_ (some 44) rfl rfl rfl ?sm ?sx (Hw.IsSet.below HR3.out (by repeat (first | (with_reducible first | exact HB.out | apply below_alloc | apply pw_below_drewN | apply below_drew1 | refine below_set ?_ GE101.out | refine below_set ?_ GE102.out | refine below_set ?_ GE103.out | refine below_set ?_ GE104.out) | exact HB.out))) a2 x13_1 true true A42.out ?_; (case sm => rfl); (case sx => rfl)))
              go_roundg k1
              case measure => have := HK1.out; omega
              case rel => exact ⟨(wrap64 (x13_1 + 1)), (x104000_1), (x104001_1), (x104002_1), (x104003_1), (x105000_1), (wrap64 (x105001_1 + 1)), (wrap64 (x105002_1 + 1)), (x105003_1), (by first | rfl | (simp; done) | (simp [*]; done)), H', ⟨by have := HK1.out; omega⟩, ⟨by (with_reducible repeat (first | refine blk_drewN ?_ _ | refine blk_drew ?_ | refine blk_alloc ?_ _)); refine blk_far ?_ NB101_104.out _; (with_reducible repeat (first | refine blk_drewN ?_ _ | refine blk_drew ?_ | refine blk_alloc ?_ _)); refine blk_far ?_ NB101_104.out _; (with_reducible repeat (first | refine blk_drewN ?_ _ | refine blk_drew ?_ | refine blk_alloc ?_ _)); exact BK101.out⟩, ⟨by (with_reducible repeat (first | refine blk_drewN ?_ _ | refine blk_drew ?_ | refine blk_alloc ?_ _)); refine blk_far ?_ NB102_104.out _; (with_reducible repeat (first | refine blk_drewN ?_ _ | refine blk_drew ?_ | refine blk_alloc ?_ _)); refine blk_far ?_ NB102_104.out _; (with_reducible repeat (first | refine blk_drewN ?_ _ | refine blk_drew ?_ | refine blk_alloc ?_ _)); exact BK102.out⟩, ⟨by (with_reducible repeat (first | refine blk_drewN ?_ _ | refine blk_drew ?_ | refine blk_alloc ?_ _)); refine blk_far ?_ NB103_104.out _; (with_reducible repeat (first | refine blk_drewN ?_ _ | refine blk_drew ?_ | refine blk_alloc ?_ _)); refine blk_far ?_ NB103_104.out _; (with_reducible repeat (first | refine blk_drewN ?_ _ | refine blk_drew ?_ | refine blk_alloc ?_ _)); exact BK103.out⟩, ⟨by (with_reducible repeat (first | refine blk_drewN ?_ _ | refine blk_drew ?_ | refine blk_alloc ?_ _)); refine blk_put (cs := #[.int .i64 x105000_1, .int .i64 (wrap64 (x105001_1 + 1)), .int .i64 x105002_1, .bool x105003_1]) ?_ 2 _ rfl; (with_reducible repeat (first | refine blk_drewN ?_ _ | refine blk_drew ?_ | refine blk_alloc ?_ _)); refine blk_put (cs := #[.int .i64 x105000_1, .int .i64 x105001_1, .int .i64 x105002_1, .bool x105003_1]) ?_ 1 _ rfl; (with_reducible repeat (first | refine blk_drewN ?_ _ | refine blk_drew ?_ | refine blk_alloc ?_ _)); exact BK104.out⟩, ⟨by repeat (first | (with_reducible first | exact HB.out | apply below_alloc | apply pw_below_drewN | apply below_drew1 | refine below_set ?_ GE101.out | refine below_set ?_ GE102.out | refine below_set ?_ GE103.out | refine below_set ?_ GE104.out) | exact HB.out)⟩⟩
            · replace c43 := Bool.eq_false_iff.mpr c43
              subst c43
              have H1 : (some (x105000_1, wrap64 (x105001_1 + 1), wrap64 (x105002_1 + 1), true)) = some (r1, r2, r3, r4) := by rw [if_neg (show ¬ (false = true) by decide)] at H; exact H
              clear H
              have H := H1
              clear H1
              simp only [Option.some.injEq, Prod.mk.injEq] at H
              obtain ⟨rfl, rfl, rfl, rfl⟩ := H
              have hnb48 := NB104_101.out
              have hnc48 := NB101_104.out
              have hnb49 := NB104_102.out
              have hnc49 := NB102_104.out
              have hnb50 := NB104_103.out
              have hnc50 := NB103_104.out
              have hcz51_0 : wr.cell? ⟨gb104, 0, none⟩ = some (.int .i64 x105000_1) := (blk_cell BK104.out 0).trans rfl
              have hcz51_1 : wr.cell? ⟨gb104, 1, none⟩ = some (.int .i64 x105001_1) := (blk_cell BK104.out 1).trans rfl
              have hcz51_2 : wr.cell? ⟨gb104, 2, none⟩ = some (.int .i64 x105002_1) := (blk_cell BK104.out 2).trans rfl
              have hcz51_3 : wr.cell? ⟨gb104, 3, none⟩ = some (.bool x105003_1) := (blk_cell BK104.out 3).trans rfl
              have hfz51_0 := blk_frozen BK104.out 0
              have hfz51_1 := blk_frozen BK104.out 1
              have hfz51_2 := blk_frozen BK104.out 2
              have hfz51_3 := blk_frozen BK104.out 3
              go_wp2_with (first | ((with_reducible refine Hw.gate_look (t := 76) rfl ?_); refine Hw.lookL_ (some 24) rfl rfl rfl ?sm ?sx (Hw.IsSet.below HR3.out (by repeat (first | (with_reducible first | exact HB.out | apply below_alloc | apply pw_below_drewN | apply below_drew1 | refine below_set ?_ GE101.out | refine below_set ?_ GE102.out | refine below_set ?_ GE103.out | refine below_set ?_ GE104.out) | exact HB.out))) a2 x13_1 false false A14.out ?_; (case sm => rfl); (case sx => rfl)) | ((with_reducible refine Hw.gate_look (t := 76) rfl ?_); refine Hw.lookL_ (some 44) rfl rfl rfl ?sm ?sx (Hw.IsSet.below HR3.out (by repeat (first | (with_reducible first | exact HB.out | apply below_alloc | apply pw_below_drewN | apply below_drew1 | refine below_set ?_ GE101.out | refine below_set ?_ GE102.out | refine below_set ?_ GE103.out | refine below_set ?_ GE104.out) | exact HB.out))) a2 x13_1 true false A42.out ?_; (case sm => rfl); (case sx => rfl); have hnb52 := NB103_101.out; have hnc52 := NB101_103.out; have hnb53 := NB103_102.out; have hnc53 := NB102_103.out; have hcz54_0 : wr.cell? ⟨gb103, 0, none⟩ = some (.int .i64 x104000_1) := (blk_cell BK103.out 0).trans rfl; have hcz54_1 : wr.cell? ⟨gb103, 1, none⟩ = some (.int .i64 x104001_1) := (blk_cell BK103.out 1).trans rfl; have hcz54_2 : wr.cell? ⟨gb103, 2, none⟩ = some (.int .i64 x104002_1) := (blk_cell BK103.out 2).trans rfl; have hcz54_3 : wr.cell? ⟨gb103, 3, none⟩ = some (.bool x104003_1) := (blk_cell BK103.out 3).trans rfl; have hfz54_0 := blk_frozen BK103.out 0; have hfz54_1 := blk_frozen BK103.out 1; have hfz54_2 := blk_frozen BK103.out 2; have hfz54_3 := blk_frozen BK103.out 3))
              refine bodyPost_ret (results_cell_row rfl _ _ gb103 45 #[.int .i64 x105000_1, .int .i64 (wrap64 (x105001_1 + 1)), .int .i64 (wrap64 (x105002_1 + 1)), .bool true] (0, 0) _ rfl (by (with_reducible repeat (first | refine blk_drewN ?_ _ | refine blk_drew ?_ | refine blk_alloc ?_ _)); refine blk_put (cs := #[.int .i64 x105000_1, .int .i64 (wrap64 (x105001_1 + 1)), .int .i64 (wrap64 (x105002_1 + 1)), .bool x104003_1]) ?_ 3 _ rfl; (with_reducible repeat (first | refine blk_drewN ?_ _ | refine blk_drew ?_ | refine blk_alloc ?_ _)); refine blk_put (cs := #[.int .i64 x105000_1, .int .i64 (wrap64 (x105001_1 + 1)), .int .i64 x104002_1, .bool x104003_1]) ?_ 2 _ rfl; (with_reducible repeat (first | refine blk_drewN ?_ _ | refine blk_drew ?_ | refine blk_alloc ?_ _)); refine blk_put (cs := #[.int .i64 x105000_1, .int .i64 x104001_1, .int .i64 x104002_1, .bool x104003_1]) ?_ 1 _ rfl; (with_reducible repeat (first | refine blk_drewN ?_ _ | refine blk_drew ?_ | refine blk_alloc ?_ _)); refine blk_put (cs := #[.int .i64 x104000_1, .int .i64 x104001_1, .int .i64 x104002_1, .bool x104003_1]) ?_ 0 _ rfl; (with_reducible repeat (first | refine blk_drewN ?_ _ | refine blk_drew ?_ | refine blk_alloc ?_ _)); refine blk_far ?_ NB103_104.out _; (with_reducible repeat (first | refine blk_drewN ?_ _ | refine blk_drew ?_ | refine blk_alloc ?_ _)); refine blk_far ?_ NB103_104.out _; (with_reducible repeat (first | refine blk_drewN ?_ _ | refine blk_drew ?_ | refine blk_alloc ?_ _)); refine blk_far ?_ NB103_104.out _; (with_reducible repeat (first | refine blk_drewN ?_ _ | refine blk_drew ?_ | refine blk_alloc ?_ _)); exact BK103.out) Try.underlying45 rfl (by kernel_rfl)) rfl ?_
              exact ⟨by first | rfl | (simp [errW_none, errW_some] <;> rfl) | (simp [*, errW_none, errW_some] <;> rfl), by repeat (first | (with_reducible first | exact HB.out | apply below_alloc | apply pw_below_drewN | apply below_drew1 | refine below_set ?_ GE101.out | refine below_set ?_ GE102.out | refine below_set ?_ GE103.out | refine below_set ?_ GE104.out) | exact HB.out)⟩
      · rw [if_neg c13] at H
        have c13b0 : decide (x13_1 < a0_1) = false := decide_eq_false c13
        clear c13
        replace H := Option.bind_eq_some_iff.mp H
        obtain ⟨t105, A550, H⟩ := H
        replace H : (some (t105, x105001_1, x105002_1, x105003_1)) = some (r1, r2, r3, r4) := H
        have A55 := Aside0.mk A550
        clear A550
        simp only [Option.some.injEq, Prod.mk.injEq] at H
        obtain ⟨rfl, rfl, rfl, rfl⟩ := H
        have hnb56 := NB101_102.out
        have hnc56 := NB102_101.out
        have hnb57 := NB101_103.out
        have hnc57 := NB103_101.out
        have hnb58 := NB101_104.out
        have hnc58 := NB104_101.out
        have hcz59_0 : wr.cell? ⟨gb101, 0, none⟩ = some (.int .i64 a0_0) := (blk_cell BK101.out 0).trans rfl
        have hcz59_1 : wr.cell? ⟨gb101, 1, none⟩ = some (.int .i64 a0_1) := (blk_cell BK101.out 1).trans rfl
        have hcz59_2 : wr.cell? ⟨gb101, 2, none⟩ = some (.int .i64 a0_2) := (blk_cell BK101.out 2).trans rfl
        have hfz59_0 := blk_frozen BK101.out 0
        have hfz59_1 := blk_frozen BK101.out 1
        have hfz59_2 := blk_frozen BK101.out 2
        have hnb60 := NB102_103.out
        have hnc60 := NB103_102.out
        have hnb61 := NB102_104.out
        have hnc61 := NB104_102.out
        have hcz62_0 : wr.cell? ⟨gb102, 0, none⟩ = some (.int .i64 a1_0) := (blk_cell BK102.out 0).trans rfl
        have hcz62_1 : wr.cell? ⟨gb102, 1, none⟩ = some (.int .i64 a1_1) := (blk_cell BK102.out 1).trans rfl
        have hfz62_0 := blk_frozen BK102.out 0
        have hfz62_1 := blk_frozen BK102.out 1
        go_wp2_with (first | ((with_reducible refine gate_callee (f := 50) rfl ?_); refine goesL_ (some 51) rfl rfl Try.func50 (by kernel_rfl) rfl #[.agg #[.int .i64 a0_0, .int .i64 a0_1, .int .i64 a0_2], .agg #[.int .i64 a1_0, .int .i64 a1_1]] rfl (by (try simp only [List.map_toArray, List.map_cons, List.map_nil]); first | done | rfl | (simp only [List.length_drop, List.length_take]; rfl)) ?_; (with_reducible refine (notice_Latest.calls a0_0 a0_1 a0_2 a1_0 a1_1 t105 _ A55.out).mono ?_); rintro e w63 ⟨rfl, hb⟩; refine ⟨_, rfl, ?_⟩; have n0_ := Aside0.mk (blk_below (g := gb101) (o := .cells #[.int .i64 a0_0, .int .i64 a0_1, .int .i64 a0_2] 62 (0, 0)) (by (with_reducible repeat (first | refine blk_drewN ?_ _ | refine blk_drew ?_ | refine blk_alloc ?_ _)); exact BK101.out) hb); have n1_ := Aside0.mk (blk_below (g := gb102) (o := .cells #[.int .i64 a1_0, .int .i64 a1_1] 64 (0, 0)) (by (with_reducible repeat (first | refine blk_drewN ?_ _ | refine blk_drew ?_ | refine blk_alloc ?_ _)); exact BK102.out) hb); have n2_ := Aside0.mk (blk_below (g := gb103) (o := .cells #[.int .i64 x104000_1, .int .i64 x104001_1, .int .i64 x104002_1, .bool x104003_1] 45 (0, 0)) (by (with_reducible repeat (first | refine blk_drewN ?_ _ | refine blk_drew ?_ | refine blk_alloc ?_ _)); exact BK103.out) hb); have n3_ := Aside0.mk (blk_below (g := gb104) (o := .cells #[.int .i64 x105000_1, .int .i64 x105001_1, .int .i64 x105002_1, .bool x105003_1] 45 (0, 0)) (by (with_reducible repeat (first | refine blk_drewN ?_ _ | refine blk_drew ?_ | refine blk_alloc ?_ _)); exact BK104.out) hb); have n4_ := Aside0.mk (below_step (by repeat (first | (with_reducible first | exact HB.out | apply below_alloc | apply pw_below_drewN | apply below_drew1 | refine below_set ?_ GE101.out | refine below_set ?_ GE102.out | refine below_set ?_ GE103.out | refine below_set ?_ GE104.out) | exact HB.out)) hb); clear BK101; clear BK102; clear BK103; clear BK104; clear HB; have BK101 := n0_; have BK102 := n1_; have BK103 := n2_; have BK104 := n3_; have HB := n4_; clear n0_ n1_ n2_ n3_ n4_; (try clear hb); (try clear hb2); (try clear hk); (try clear hi); have hnb64 := NB104_103.out; have hnc64 := NB103_104.out; have hcz65_0 : w63.cell? ⟨gb104, 0, none⟩ = some (.int .i64 x105000_1) := (blk_cell BK104.out 0).trans rfl; have hcz65_1 : w63.cell? ⟨gb104, 1, none⟩ = some (.int .i64 x105001_1) := (blk_cell BK104.out 1).trans rfl; have hcz65_2 : w63.cell? ⟨gb104, 2, none⟩ = some (.int .i64 x105002_1) := (blk_cell BK104.out 2).trans rfl; have hcz65_3 : w63.cell? ⟨gb104, 3, none⟩ = some (.bool x105003_1) := (blk_cell BK104.out 3).trans rfl; have hfz65_0 := blk_frozen BK104.out 0; have hfz65_1 := blk_frozen BK104.out 1; have hfz65_2 := blk_frozen BK104.out 2; have hfz65_3 := blk_frozen BK104.out 3; have hcz66_0 : w63.cell? ⟨gb103, 0, none⟩ = some (.int .i64 x104000_1) := (blk_cell BK103.out 0).trans rfl; have hcz66_1 : w63.cell? ⟨gb103, 1, none⟩ = some (.int .i64 x104001_1) := (blk_cell BK103.out 1).trans rfl; have hcz66_2 : w63.cell? ⟨gb103, 2, none⟩ = some (.int .i64 x104002_1) := (blk_cell BK103.out 2).trans rfl; have hcz66_3 : w63.cell? ⟨gb103, 3, none⟩ = some (.bool x104003_1) := (blk_cell BK103.out 3).trans rfl; have hfz66_0 := blk_frozen BK103.out 0; have hfz66_1 := blk_frozen BK103.out 1; have hfz66_2 := blk_frozen BK103.out 2; have hfz66_3 := blk_frozen BK103.out 3))
        refine bodyPost_ret (results_cell_row rfl _ _ gb103 45 #[.int .i64 t105, .int .i64 x105001_1, .int .i64 x105002_1, .bool x105003_1] (0, 0) _ rfl (by (with_reducible repeat (first | refine blk_drewN ?_ _ | refine blk_drew ?_ | refine blk_alloc ?_ _)); refine blk_put (cs := #[.int .i64 t105, .int .i64 x105001_1, .int .i64 x105002_1, .bool x104003_1]) ?_ 3 _ rfl; (with_reducible repeat (first | refine blk_drewN ?_ _ | refine blk_drew ?_ | refine blk_alloc ?_ _)); refine blk_put (cs := #[.int .i64 t105, .int .i64 x105001_1, .int .i64 x104002_1, .bool x104003_1]) ?_ 2 _ rfl; (with_reducible repeat (first | refine blk_drewN ?_ _ | refine blk_drew ?_ | refine blk_alloc ?_ _)); refine blk_put (cs := #[.int .i64 t105, .int .i64 x104001_1, .int .i64 x104002_1, .bool x104003_1]) ?_ 1 _ rfl; (with_reducible repeat (first | refine blk_drewN ?_ _ | refine blk_drew ?_ | refine blk_alloc ?_ _)); refine blk_put (cs := #[.int .i64 x104000_1, .int .i64 x104001_1, .int .i64 x104002_1, .bool x104003_1]) ?_ 0 _ rfl; (with_reducible repeat (first | refine blk_drewN ?_ _ | refine blk_drew ?_ | refine blk_alloc ?_ _)); refine blk_far ?_ NB103_104.out _; (with_reducible repeat (first | refine blk_drewN ?_ _ | refine blk_drew ?_ | refine blk_alloc ?_ _)); exact BK103.out) Try.underlying45 rfl (by kernel_rfl)) rfl ?_
        exact ⟨by first | rfl | (simp [errW_none, errW_some] <;> rfl) | (simp [*, errW_none, errW_some] <;> rfl), by repeat (first | (with_reducible first | exact HB.out | apply below_alloc | apply pw_below_drewN | apply below_drew1 | refine below_set ?_ GE101.out | refine below_set ?_ GE102.out | refine below_set ?_ GE103.out | refine below_set ?_ GE104.out) | exact HB.out)⟩

end Go.Proofs.Ytmlhckcnpfokaaa.D
