/- What the Go functions named below come to, each told as a Lean function ('.f'), with the proof ('.calls'): no condition beyond those that each theorem states. Written by a program of this session's over the translation. -/
import Derived.Test.YtjdkfdcaicdenaaF0
import Derived.Test.YtjdkfdcaicdenaaF1
import Derived.Test.YtjdkfdcaicdenaaF2
import Derived.Test.YtjdkfdcaicdenaaF4
namespace Go.Proofs.Ytjdkfdcaicdenaa.F
open Go.RowKit Go.Proofs.YtjdkfdcaicdenaaW.PrintWords Go.Proofs.YtjdkfdcaicdenaaW.PrintLast Go.Proofs.YtjdkfdcaicdenaaW.PrintMore
attribute [local go_sem] max2_int min2_int max_two min_two max_three min_three max_four min_four   -- for this text's walks alone
set_option linter.unusedVariables false
set_option linter.unusedSimpArgs false

attribute [local go_sem high] eqA50
/-! ### insolvencyref33_serve: function 22 -/
def insolvencyref33_serve.l0 : Nat → Int → List (S54) → Int → Int → Int → Int → Int → Int → Int → Int → Int → Int → Bool → Option (Int × Int × Int × Bool)
  | 0, _, _, _, _, _, _, _, _, _, _, _, _, _ => none
  | k + 1, x2, x3, x10, x11, x164000, x164001, x164002, x165000, x165001, x167000, x167001, x167002, x167003 => if x11 < x164001 then ((insolvencyref33_gone.f k x3 x2 x11 false).bind fun t168 => (if t168 = true then (insolvencyref33_serve.l0 k x2 x3 x10 (wrap64 (x11 + 1)) x164000 x164001 x164002 x165000 x165001 x167000 (wrap64 (x167001 + 1)) x167002 x167003) else (if x167002 = 0 then ((insolvencyref33_gone.f k x3 x2 x11 true).bind fun t169 => (if t169 = true then (insolvencyref33_serve.l0 k x2 x3 (wrap64 (x165001 + (wrap64 (x11 * x164000)))) (wrap64 (x11 + 1)) x164000 x164001 x164002 x165000 x165001 x167000 (wrap64 (x167001 + 1)) (wrap64 (x167002 + 1)) x167003) else (some (wrap64 (x165001 + (wrap64 (x11 * x164000))), wrap64 (x167001 + 1), wrap64 (x167002 + 1), true)))) else ((insolvencyref33_gone.f k x3 x2 x11 true).bind fun t170 => (if t170 = true then (insolvencyref33_serve.l0 k x2 x3 x10 (wrap64 (x11 + 1)) x164000 x164001 x164002 x165000 x165001 x167000 (wrap64 (x167001 + 1)) (wrap64 (x167002 + 1)) x167003) else (some (x10, wrap64 (x167001 + 1), wrap64 (x167002 + 1), true))))))) else ((insolvencyref33_Latest.f x164000 x164001 x164002 x165000 x165001).bind fun t167 => (some (t167, x167001, x167002, x167003)))
def insolvencyref33_serve.f (k : Nat) (a0_0 : Int) (a0_1 : Int) (a0_2 : Int) (a1_0 : Int) (a1_1 : Int) (a2 : Int) (l3 : List (S54)) : Option (Int × Int × Int × Bool) := insolvencyref33_serve.l0 k a2 l3 0 0 a0_0 a0_1 a0_2 a1_0 a1_1 0 0 0 false
theorem insolvencyref33_serve.mono_l : ∀ k, (∀ y0 y1 y2 y3 y4 y5 y6 y7 y8 y9 y10 y11 y12, LeO (insolvencyref33_serve.l0 k y0 y1 y2 y3 y4 y5 y6 y7 y8 y9 y10 y11 y12) (insolvencyref33_serve.l0 (k + 1) y0 y1 y2 y3 y4 y5 y6 y7 y8 y9 y10 y11 y12))
  | 0 => fun _ _ _ _ _ _ _ _ _ _ _ _ _ r h => by simp [insolvencyref33_serve.l0] at h
  | k + 1 => by
    have ih0 := insolvencyref33_serve.mono_l k
    · intro y0 y1 y2 y3 y4 y5 y6 y7 y8 y9 y10 y11 y12
      unfold insolvencyref33_serve.l0
      repeat' first
      | (with_reducible exact ih0 _ _ _ _ _ _ _ _ _ _ _ _ _)
      | (with_reducible exact insolvencyref33_gone.mono _ _ _ _ _)
      | (with_reducible exact LeO.refl _)
      | (with_reducible exact LeO.none _)
      | (with_reducible refine LeO.ite ?_ ?_)
      | (with_reducible refine LeO.bind ?_ (fun _ => ?_))
      | exact ih0 _ _ _ _ _ _ _ _ _ _ _ _ _
      | exact insolvencyref33_gone.mono _ _ _ _ _
      | exact LeO.none _
      | refine LeO.ite ?_ ?_
      | refine LeO.bind ?_ (fun _ => ?_)
theorem insolvencyref33_serve.mono : ∀ a0 a1 a2 a3 a4 a5 a6 k, LeO (insolvencyref33_serve.f k a0 a1 a2 a3 a4 a5 a6) (insolvencyref33_serve.f (k + 1) a0 a1 a2 a3 a4 a5 a6) := by
  intro a0 a1 a2 a3 a4 a5 a6 k
  have ih0 := insolvencyref33_serve.mono_l k
  unfold insolvencyref33_serve.f
  repeat' first
      | (with_reducible exact ih0 _ _ _ _ _ _ _ _ _ _ _ _ _)
      | (with_reducible exact insolvencyref33_gone.mono _ _ _ _ _)
      | (with_reducible exact LeO.refl _)
      | (with_reducible exact LeO.none _)
      | (with_reducible refine LeO.ite ?_ ?_)
      | (with_reducible refine LeO.bind ?_ (fun _ => ?_))
      | exact ih0 _ _ _ _ _ _ _ _ _ _ _ _ _
      | exact insolvencyref33_gone.mono _ _ _ _ _
      | exact LeO.none _
      | refine LeO.ite ?_ ?_
      | refine LeO.bind ?_ (fun _ => ?_)
set_option maxHeartbeats 8000000 in
set_option maxRecDepth 100000 in
theorem insolvencyref33_serve.calls (k : Nat) (a0_0 : Int) (a0_1 : Int) (a0_2 : Int) (a1_0 : Int) (a1_1 : Int) (a2 : Int) (A3 : Option Addr) (c3 : Nat) (l3 : List (S54)) (r1 : Int) (r2 : Int) (r3 : Int) (r4 : Bool) (w : World) (hr3 : Kd.C k54 w A3 l3.length l3) (hc3 : l3.length ≤ c3) (h : insolvencyref33_serve.f k a0_0 a0_1 a0_2 a1_0 a1_1 a2 l3 = some (r1, r2, r3, r4)) :
    Calls Try.prog 22 #[.agg #[.int .i64 a0_0, .int .i64 a0_1, .int .i64 a0_2], .agg #[.int .i64 a1_0, .int .i64 a1_1], .int .i64 a2, .slice A3 l3.length c3] w fun e w' => e = .returned (.agg #[.int .i64 r1, .int .i64 r2, .int .i64 r3, .bool r4]) ∧ Below w.heap.size w w' := by
  have hu23 := Try.underlying23
  have hu46 := Try.underlying46
  have hu50 := Try.underlying50
  have HR3 := Aside0.mk hr3
  have HC3 := Aside0.mk hc3
  clear hr3 hc3
  have HB := Aside0.mk (Below.refl w.heap.size w)
  have H : (insolvencyref33_serve.l0 k a2 l3 0 0 a0_0 a0_1 a0_2 a1_0 a1_1 0 0 0 false) = some (r1, r2, r3, r4) := h
  clear h
  have H' := Aside0.mk H
  clear H
  go_enter Try.func22, Try.ntmps22
  go_wp2_with (first | ((with_reducible refine gate_dst (N := 4) rfl ?_); refine box_event ?hg (N := 4) ?hd (cs := #[.int .i64 a0_0, .int .i64 a0_1, .int .i64 a0_2]) (t := 23) ?hr ?_; (case hd => rfl); (case hg => rfl); (case hr => first | (go_simp; done) | (go_simp; rfl)); intro gb163 hg w5 hbox hb; have n0_ := Aside0.mk (below_step (by repeat (first | (with_reducible first | exact HB.out | apply below_alloc | apply pw_below_drewN | apply below_drew1) | exact HB.out)) hb); have n1_ := Aside0.mk (hbox); have n2_ := Aside0.mk ((by rw [hg]; exact (below_size (by repeat (first | (with_reducible first | exact HB.out | apply below_alloc | apply pw_below_drewN | apply below_drew1) | exact HB.out))) : w.heap.size ≤ gb163)); have n3_ := Aside0.mk ((by rw [hg]; exact (below_size (by repeat (first | (with_reducible first | exact HB.out | apply below_alloc | apply pw_below_drewN | apply below_drew1) | exact HB.out))) : w.heap.size ≤ gb163)); clear HB; have HB := n0_; have BK163 := n1_; have GW163 := n2_; have GE163 := n3_; clear n0_ n1_ n2_ n3_; clear hb hbox hg) | ((with_reducible refine gate_dst (N := 5) rfl ?_); refine box_event ?hg (N := 5) ?hd (cs := #[.int .i64 a1_0, .int .i64 a1_1]) (t := 46) ?hr ?_; (case hd => rfl); (case hg => rfl); (case hr => first | (go_simp; done) | (go_simp; rfl)); intro gb164 hg w6 hbox hb; have n0_ := Aside0.mk (blk_below (g := gb163) (o := .cells #[.int .i64 a0_0, .int .i64 a0_1, .int .i64 a0_2] 23 (0, 0)) (by (with_reducible repeat (first | refine blk_drewN ?_ _ | refine blk_drew ?_ | refine blk_alloc ?_ _)); exact BK163.out) hb); have n1_ := Aside0.mk (below_step (by repeat (first | (with_reducible first | exact HB.out | apply below_alloc | apply pw_below_drewN | apply below_drew1 | refine below_set ?_ GE163.out) | exact HB.out)) hb); have n2_ := Aside0.mk (hbox); have n3_ := Aside0.mk ((by rw [hg]; exact (below_size (by repeat (first | (with_reducible first | exact HB.out | apply below_alloc | apply pw_below_drewN | apply below_drew1 | refine below_set ?_ GE163.out) | exact HB.out))) : w.heap.size ≤ gb164)); have n4_ := Aside0.mk ((by rw [hg]; exact (below_size (by repeat (first | (with_reducible first | exact HB.out | apply below_alloc | apply pw_below_drewN | apply below_drew1 | refine below_set ?_ GE163.out) | exact HB.out))) : w.heap.size ≤ gb164)); have n5_ := Aside0.mk ((by rw [hg]; exact Nat.ne_of_lt (blk_lt (g := gb163) (o := .cells #[.int .i64 a0_0, .int .i64 a0_1, .int .i64 a0_2] 23 (0, 0)) (by (with_reducible repeat (first | refine blk_drewN ?_ _ | refine blk_drew ?_ | refine blk_alloc ?_ _)); exact BK163.out)) : gb163 ≠ gb164)); have n6_ := Aside0.mk ((by rw [hg]; exact Nat.ne_of_gt (blk_lt (g := gb163) (o := .cells #[.int .i64 a0_0, .int .i64 a0_1, .int .i64 a0_2] 23 (0, 0)) (by (with_reducible repeat (first | refine blk_drewN ?_ _ | refine blk_drew ?_ | refine blk_alloc ?_ _)); exact BK163.out)) : gb164 ≠ gb163)); clear BK163; clear HB; have BK163 := n0_; have HB := n1_; have BK164 := n2_; have GW164 := n3_; have GE164 := n4_; have NB163_164 := n5_; have NB164_163 := n6_; clear n0_ n1_ n2_ n3_ n4_ n5_ n6_; clear hb hbox hg) | ((with_reducible refine gate_dst (N := 8) rfl ?_); refine box_event ?hg (N := 8) ?hd (cs := #[.int .i64 0, .int .i64 0, .int .i64 0, .bool false]) (t := 50) ?hr ?_; (case hd => rfl); (case hg => rfl); (case hr => first | (go_simp; done) | (go_simp; rfl)); intro gb165 hg w7 hbox hb; have n0_ := Aside0.mk (blk_below (g := gb163) (o := .cells #[.int .i64 a0_0, .int .i64 a0_1, .int .i64 a0_2] 23 (0, 0)) (by (with_reducible repeat (first | refine blk_drewN ?_ _ | refine blk_drew ?_ | refine blk_alloc ?_ _)); exact BK163.out) hb); have n1_ := Aside0.mk (blk_below (g := gb164) (o := .cells #[.int .i64 a1_0, .int .i64 a1_1] 46 (0, 0)) (by (with_reducible repeat (first | refine blk_drewN ?_ _ | refine blk_drew ?_ | refine blk_alloc ?_ _)); exact BK164.out) hb); have n2_ := Aside0.mk (below_step (by repeat (first | (with_reducible first | exact HB.out | apply below_alloc | apply pw_below_drewN | apply below_drew1 | refine below_set ?_ GE163.out | refine below_set ?_ GE164.out) | exact HB.out)) hb); have n3_ := Aside0.mk (hbox); have n4_ := Aside0.mk ((by rw [hg]; exact (below_size (by repeat (first | (with_reducible first | exact HB.out | apply below_alloc | apply pw_below_drewN | apply below_drew1 | refine below_set ?_ GE163.out | refine below_set ?_ GE164.out) | exact HB.out))) : w.heap.size ≤ gb165)); have n5_ := Aside0.mk ((by rw [hg]; exact (below_size (by repeat (first | (with_reducible first | exact HB.out | apply below_alloc | apply pw_below_drewN | apply below_drew1 | refine below_set ?_ GE163.out | refine below_set ?_ GE164.out) | exact HB.out))) : w.heap.size ≤ gb165)); have n6_ := Aside0.mk ((by rw [hg]; exact Nat.ne_of_lt (blk_lt (g := gb163) (o := .cells #[.int .i64 a0_0, .int .i64 a0_1, .int .i64 a0_2] 23 (0, 0)) (by (with_reducible repeat (first | refine blk_drewN ?_ _ | refine blk_drew ?_ | refine blk_alloc ?_ _)); exact BK163.out)) : gb163 ≠ gb165)); have n7_ := Aside0.mk ((by rw [hg]; exact Nat.ne_of_gt (blk_lt (g := gb163) (o := .cells #[.int .i64 a0_0, .int .i64 a0_1, .int .i64 a0_2] 23 (0, 0)) (by (with_reducible repeat (first | refine blk_drewN ?_ _ | refine blk_drew ?_ | refine blk_alloc ?_ _)); exact BK163.out)) : gb165 ≠ gb163)); have n8_ := Aside0.mk ((by rw [hg]; exact Nat.ne_of_lt (blk_lt (g := gb164) (o := .cells #[.int .i64 a1_0, .int .i64 a1_1] 46 (0, 0)) (by (with_reducible repeat (first | refine blk_drewN ?_ _ | refine blk_drew ?_ | refine blk_alloc ?_ _)); exact BK164.out)) : gb164 ≠ gb165)); have n9_ := Aside0.mk ((by rw [hg]; exact Nat.ne_of_gt (blk_lt (g := gb164) (o := .cells #[.int .i64 a1_0, .int .i64 a1_1] 46 (0, 0)) (by (with_reducible repeat (first | refine blk_drewN ?_ _ | refine blk_drew ?_ | refine blk_alloc ?_ _)); exact BK164.out)) : gb165 ≠ gb164)); clear BK163; clear BK164; clear HB; have BK163 := n0_; have BK164 := n1_; have HB := n2_; have BK165 := n3_; have GW165 := n4_; have GE165 := n5_; have NB163_165 := n6_; have NB165_163 := n7_; have NB164_165 := n8_; have NB165_164 := n9_; clear n0_ n1_ n2_ n3_ n4_ n5_ n6_ n7_ n8_ n9_; clear hb hbox hg) | ((with_reducible refine gate_dst (N := 9) rfl ?_); refine box_event ?hg (N := 9) ?hd (cs := #[.int .i64 0, .int .i64 0, .int .i64 0, .bool false]) (t := 50) ?hr ?_; (case hd => rfl); (case hg => rfl); (case hr => first | (go_simp; done) | (go_simp; rfl)); intro gb166 hg w8 hbox hb; have n0_ := Aside0.mk (blk_below (g := gb163) (o := .cells #[.int .i64 a0_0, .int .i64 a0_1, .int .i64 a0_2] 23 (0, 0)) (by (with_reducible repeat (first | refine blk_drewN ?_ _ | refine blk_drew ?_ | refine blk_alloc ?_ _)); exact BK163.out) hb); have n1_ := Aside0.mk (blk_below (g := gb164) (o := .cells #[.int .i64 a1_0, .int .i64 a1_1] 46 (0, 0)) (by (with_reducible repeat (first | refine blk_drewN ?_ _ | refine blk_drew ?_ | refine blk_alloc ?_ _)); exact BK164.out) hb); have n2_ := Aside0.mk (blk_below (g := gb165) (o := .cells #[.int .i64 0, .int .i64 0, .int .i64 0, .bool false] 50 (0, 0)) (by (with_reducible repeat (first | refine blk_drewN ?_ _ | refine blk_drew ?_ | refine blk_alloc ?_ _)); exact BK165.out) hb); have n3_ := Aside0.mk (below_step (by repeat (first | (with_reducible first | exact HB.out | apply below_alloc | apply pw_below_drewN | apply below_drew1 | refine below_set ?_ GE163.out | refine below_set ?_ GE164.out | refine below_set ?_ GE165.out) | exact HB.out)) hb); have n4_ := Aside0.mk (hbox); have n5_ := Aside0.mk ((by rw [hg]; exact (below_size (by repeat (first | (with_reducible first | exact HB.out | apply below_alloc | apply pw_below_drewN | apply below_drew1 | refine below_set ?_ GE163.out | refine below_set ?_ GE164.out | refine below_set ?_ GE165.out) | exact HB.out))) : w.heap.size ≤ gb166)); have n6_ := Aside0.mk ((by rw [hg]; exact (below_size (by repeat (first | (with_reducible first | exact HB.out | apply below_alloc | apply pw_below_drewN | apply below_drew1 | refine below_set ?_ GE163.out | refine below_set ?_ GE164.out | refine below_set ?_ GE165.out) | exact HB.out))) : w.heap.size ≤ gb166)); have n7_ := Aside0.mk ((by rw [hg]; exact Nat.ne_of_lt (blk_lt (g := gb163) (o := .cells #[.int .i64 a0_0, .int .i64 a0_1, .int .i64 a0_2] 23 (0, 0)) (by (with_reducible repeat (first | refine blk_drewN ?_ _ | refine blk_drew ?_ | refine blk_alloc ?_ _)); exact BK163.out)) : gb163 ≠ gb166)); have n8_ := Aside0.mk ((by rw [hg]; exact Nat.ne_of_gt (blk_lt (g := gb163) (o := .cells #[.int .i64 a0_0, .int .i64 a0_1, .int .i64 a0_2] 23 (0, 0)) (by (with_reducible repeat (first | refine blk_drewN ?_ _ | refine blk_drew ?_ | refine blk_alloc ?_ _)); exact BK163.out)) : gb166 ≠ gb163)); have n9_ := Aside0.mk ((by rw [hg]; exact Nat.ne_of_lt (blk_lt (g := gb164) (o := .cells #[.int .i64 a1_0, .int .i64 a1_1] 46 (0, 0)) (by (with_reducible repeat (first | refine blk_drewN ?_ _ | refine blk_drew ?_ | refine blk_alloc ?_ _)); exact BK164.out)) : gb164 ≠ gb166)); have n10_ := Aside0.mk ((by rw [hg]; exact Nat.ne_of_gt (blk_lt (g := gb164) (o := .cells #[.int .i64 a1_0, .int .i64 a1_1] 46 (0, 0)) (by (with_reducible repeat (first | refine blk_drewN ?_ _ | refine blk_drew ?_ | refine blk_alloc ?_ _)); exact BK164.out)) : gb166 ≠ gb164)); have n11_ := Aside0.mk ((by rw [hg]; exact Nat.ne_of_lt (blk_lt (g := gb165) (o := .cells #[.int .i64 0, .int .i64 0, .int .i64 0, .bool false] 50 (0, 0)) (by (with_reducible repeat (first | refine blk_drewN ?_ _ | refine blk_drew ?_ | refine blk_alloc ?_ _)); exact BK165.out)) : gb165 ≠ gb166)); have n12_ := Aside0.mk ((by rw [hg]; exact Nat.ne_of_gt (blk_lt (g := gb165) (o := .cells #[.int .i64 0, .int .i64 0, .int .i64 0, .bool false] 50 (0, 0)) (by (with_reducible repeat (first | refine blk_drewN ?_ _ | refine blk_drew ?_ | refine blk_alloc ?_ _)); exact BK165.out)) : gb166 ≠ gb165)); clear BK163; clear BK164; clear BK165; clear HB; have BK163 := n0_; have BK164 := n1_; have BK165 := n2_; have HB := n3_; have BK166 := n4_; have GW166 := n5_; have GE166 := n6_; have NB163_166 := n7_; have NB166_163 := n8_; have NB164_166 := n9_; have NB166_164 := n10_; have NB165_166 := n11_; have NB166_165 := n12_; clear n0_ n1_ n2_ n3_ n4_ n5_ n6_ n7_ n8_ n9_ n10_ n11_ n12_; clear hb hbox hg))
  go_loopg [10, 11] k (fun kq v10 v11 w' => ∃ (x10_1 : Int) (x11_1 : Int) (x166000_1 : Int) (x166001_1 : Int) (x166002_1 : Int) (x166003_1 : Bool) (x167000_1 : Int) (x167001_1 : Int) (x167002_1 : Int) (x167003_1 : Bool), v10 = .int .i64 x10_1 ∧ v11 = .int .i64 x11_1 ∧ Aside0 (insolvencyref33_serve.l0 kq a2 l3 x10_1 x11_1 a0_0 a0_1 a0_2 a1_0 a1_1 x167000_1 x167001_1 x167002_1 x167003_1 = some (r1, r2, r3, r4)) ∧ Aside0 (kq ≤ k) ∧ Aside0 (w'.heap[gb163]? = some (.cells #[.int .i64 a0_0, .int .i64 a0_1, .int .i64 a0_2] 23 (0, 0))) ∧ Aside0 (w'.heap[gb164]? = some (.cells #[.int .i64 a1_0, .int .i64 a1_1] 46 (0, 0))) ∧ Aside0 (w'.heap[gb165]? = some (.cells #[.int .i64 x166000_1, .int .i64 x166001_1, .int .i64 x166002_1, .bool x166003_1] 50 (0, 0))) ∧ Aside0 (w'.heap[gb166]? = some (.cells #[.int .i64 x167000_1, .int .i64 x167001_1, .int .i64 x167002_1, .bool x167003_1] 50 (0, 0))) ∧ Aside0 (Below w.heap.size w w'))
  case atStart => exact ⟨(0), (0), (0), (0), (0), (false), (0), (0), (0), (false), (by first | rfl | (simp; done) | (simp [*]; done)), (by first | rfl | (simp; done) | (simp [*]; done)), H', ⟨Nat.le_refl _⟩, ⟨by (with_reducible repeat (first | refine blk_drewN ?_ _ | refine blk_drew ?_ | refine blk_alloc ?_ _)); exact BK163.out⟩, ⟨by (with_reducible repeat (first | refine blk_drewN ?_ _ | refine blk_drew ?_ | refine blk_alloc ?_ _)); exact BK164.out⟩, ⟨by (with_reducible repeat (first | refine blk_drewN ?_ _ | refine blk_drew ?_ | refine blk_alloc ?_ _)); exact BK165.out⟩, ⟨by (with_reducible repeat (first | refine blk_drewN ?_ _ | refine blk_drew ?_ | refine blk_alloc ?_ _)); exact BK166.out⟩, ⟨by repeat (first | (with_reducible first | exact HB.out | apply below_alloc | apply pw_below_drewN | apply below_drew1 | refine below_set ?_ GE163.out | refine below_set ?_ GE164.out | refine below_set ?_ GE165.out | refine below_set ?_ GE166.out) | exact HB.out)⟩⟩
  case round =>
    clear H'
    try clear c2
    try clear p2
    try clear c3
    obtain ⟨x10_1, x11_1, x166000_1, x166001_1, x166002_1, x166003_1, x167000_1, x167001_1, x167002_1, x167003_1, rfl, rfl, HA, HK1, BK163, BK164, BK165, BK166, HB⟩ := hrel
    cases gk with
    | zero => exact absurd HA.out (by simp [insolvencyref33_serve.l0])
    | succ k1 =>
      have H := HA.out
      clear HA
      simp only [insolvencyref33_serve.l0] at H
      by_cases c9 : x11_1 < a0_1
      · rw [if_pos c9] at H
        have c9b0 : decide (x11_1 < a0_1) = true := decide_eq_true c9
        clear c9
        replace H := Option.bind_eq_some_iff.mp H
        obtain ⟨t168, A100, H⟩ := H
        replace H : (if t168 = true then (insolvencyref33_serve.l0 k1 a2 l3 x10_1 (wrap64 (x11_1 + 1)) a0_0 a0_1 a0_2 a1_0 a1_1 x167000_1 (wrap64 (x167001_1 + 1)) x167002_1 x167003_1) else (if x167002_1 = 0 then ((insolvencyref33_gone.f k1 l3 a2 x11_1 true).bind fun t169 => (if t169 = true then (insolvencyref33_serve.l0 k1 a2 l3 (wrap64 (a1_1 + (wrap64 (x11_1 * a0_0)))) (wrap64 (x11_1 + 1)) a0_0 a0_1 a0_2 a1_0 a1_1 x167000_1 (wrap64 (x167001_1 + 1)) (wrap64 (x167002_1 + 1)) x167003_1) else (some (wrap64 (a1_1 + (wrap64 (x11_1 * a0_0))), wrap64 (x167001_1 + 1), wrap64 (x167002_1 + 1), true)))) else ((insolvencyref33_gone.f k1 l3 a2 x11_1 true).bind fun t170 => (if t170 = true then (insolvencyref33_serve.l0 k1 a2 l3 x10_1 (wrap64 (x11_1 + 1)) a0_0 a0_1 a0_2 a1_0 a1_1 x167000_1 (wrap64 (x167001_1 + 1)) (wrap64 (x167002_1 + 1)) x167003_1) else (some (x10_1, wrap64 (x167001_1 + 1), wrap64 (x167002_1 + 1), true)))))) = some (r1, r2, r3, r4) := H
        have A10 := Aside0.mk A100
        clear A100
        by_cases c11 : t168 = true
        · subst c11
          have H1 : (insolvencyref33_serve.l0 k1 a2 l3 x10_1 (wrap64 (x11_1 + 1)) a0_0 a0_1 a0_2 a1_0 a1_1 x167000_1 (wrap64 (x167001_1 + 1)) x167002_1 x167003_1) = some (r1, r2, r3, r4) := by rw [if_pos rfl] at H; exact H
          clear H
          have H := H1
          clear H1
          have H' := Aside0.mk H
          clear H
          have hnb12 := NB163_164.out
          have hnc12 := NB164_163.out
          have hnb13 := NB163_165.out
          have hnc13 := NB165_163.out
          have hnb14 := NB163_166.out
          have hnc14 := NB166_163.out
          have hcz15_0 : wr.cell? ⟨gb163, 0, none⟩ = some (.int .i64 a0_0) := (blk_cell BK163.out 0).trans rfl
          have hcz15_1 : wr.cell? ⟨gb163, 1, none⟩ = some (.int .i64 a0_1) := (blk_cell BK163.out 1).trans rfl
          have hcz15_2 : wr.cell? ⟨gb163, 2, none⟩ = some (.int .i64 a0_2) := (blk_cell BK163.out 2).trans rfl
          have hfz15_0 := blk_frozen BK163.out 0
          have hfz15_1 := blk_frozen BK163.out 1
          have hfz15_2 := blk_frozen BK163.out 2
          have hnb16 := NB166_164.out
          have hnc16 := NB164_166.out
          have hnb17 := NB166_165.out
          have hnc17 := NB165_166.out
          have hcz18_0 : wr.cell? ⟨gb166, 0, none⟩ = some (.int .i64 x167000_1) := (blk_cell BK166.out 0).trans rfl
          have hcz18_1 : wr.cell? ⟨gb166, 1, none⟩ = some (.int .i64 x167001_1) := (blk_cell BK166.out 1).trans rfl
          have hcz18_2 : wr.cell? ⟨gb166, 2, none⟩ = some (.int .i64 x167002_1) := (blk_cell BK166.out 2).trans rfl
          have hcz18_3 : wr.cell? ⟨gb166, 3, none⟩ = some (.bool x167003_1) := (blk_cell BK166.out 3).trans rfl
          have hfz18_0 := blk_frozen BK166.out 0
          have hfz18_1 := blk_frozen BK166.out 1
          have hfz18_2 := blk_frozen BK166.out 2
          have hfz18_3 := blk_frozen BK166.out 3
          go_wp2_with (first | ((with_reducible refine gate_callee (f := 23) rfl ?_); refine goesL_ (some 25) rfl rfl Try.func23 (by kernel_rfl) rfl #[.slice A3 l3.length c3, .int .i64 a2, .int .i64 x11_1, .bool false] rfl (by (try simp only [List.map_toArray, List.map_cons, List.map_nil]); first | done | rfl | (simp only [List.length_drop, List.length_take]; rfl)) ?_; (with_reducible refine (insolvencyref33_gone.calls k1 _ _ l3 a2 x11_1 false true _ ?side1 ?side2 A10.out).mono ?_); (case side1 => exact Kd.C_below HR3.out (by repeat (first | (with_reducible first | exact HB.out | apply below_alloc | apply pw_below_drewN | apply below_drew1 | refine below_set ?_ GE163.out | refine below_set ?_ GE164.out | refine below_set ?_ GE165.out | refine below_set ?_ GE166.out) | exact HB.out))); (case side2 => exact HC3.out); rintro e w' ⟨rfl, ⟨nd, rfl⟩⟩; refine ⟨_, rfl, ?_⟩))
          go_roundg k1
          case measure => have := HK1.out; omega
          case rel => exact ⟨(x10_1), (wrap64 (x11_1 + 1)), (x166000_1), (x166001_1), (x166002_1), (x166003_1), (x167000_1), (wrap64 (x167001_1 + 1)), (x167002_1), (x167003_1), (by first | rfl | (simp; done) | (simp [*]; done)), (by first | rfl | (simp; done) | (simp [*]; done)), H', ⟨by have := HK1.out; omega⟩, ⟨by (with_reducible repeat (first | refine blk_drewN ?_ _ | refine blk_drew ?_ | refine blk_alloc ?_ _)); refine blk_far ?_ NB163_166.out _; (with_reducible repeat (first | refine blk_drewN ?_ _ | refine blk_drew ?_ | refine blk_alloc ?_ _)); exact BK163.out⟩, ⟨by (with_reducible repeat (first | refine blk_drewN ?_ _ | refine blk_drew ?_ | refine blk_alloc ?_ _)); refine blk_far ?_ NB164_166.out _; (with_reducible repeat (first | refine blk_drewN ?_ _ | refine blk_drew ?_ | refine blk_alloc ?_ _)); exact BK164.out⟩, ⟨by (with_reducible repeat (first | refine blk_drewN ?_ _ | refine blk_drew ?_ | refine blk_alloc ?_ _)); refine blk_far ?_ NB165_166.out _; (with_reducible repeat (first | refine blk_drewN ?_ _ | refine blk_drew ?_ | refine blk_alloc ?_ _)); exact BK165.out⟩, ⟨by (with_reducible repeat (first | refine blk_drewN ?_ _ | refine blk_drew ?_ | refine blk_alloc ?_ _)); refine blk_put (cs := #[.int .i64 x167000_1, .int .i64 x167001_1, .int .i64 x167002_1, .bool x167003_1]) ?_ 1 _ rfl; (with_reducible repeat (first | refine blk_drewN ?_ _ | refine blk_drew ?_ | refine blk_alloc ?_ _)); exact BK166.out⟩, ⟨by repeat (first | (with_reducible first | exact HB.out | apply below_alloc | apply pw_below_drewN | apply below_drew1 | refine below_set ?_ GE163.out | refine below_set ?_ GE164.out | refine below_set ?_ GE165.out | refine below_set ?_ GE166.out) | exact HB.out)⟩⟩
        · replace c11 := Bool.eq_false_iff.mpr c11
          subst c11
          have H1 : (if x167002_1 = 0 then ((insolvencyref33_gone.f k1 l3 a2 x11_1 true).bind fun t169 => (if t169 = true then (insolvencyref33_serve.l0 k1 a2 l3 (wrap64 (a1_1 + (wrap64 (x11_1 * a0_0)))) (wrap64 (x11_1 + 1)) a0_0 a0_1 a0_2 a1_0 a1_1 x167000_1 (wrap64 (x167001_1 + 1)) (wrap64 (x167002_1 + 1)) x167003_1) else (some (wrap64 (a1_1 + (wrap64 (x11_1 * a0_0))), wrap64 (x167001_1 + 1), wrap64 (x167002_1 + 1), true)))) else ((insolvencyref33_gone.f k1 l3 a2 x11_1 true).bind fun t170 => (if t170 = true then (insolvencyref33_serve.l0 k1 a2 l3 x10_1 (wrap64 (x11_1 + 1)) a0_0 a0_1 a0_2 a1_0 a1_1 x167000_1 (wrap64 (x167001_1 + 1)) (wrap64 (x167002_1 + 1)) x167003_1) else (some (x10_1, wrap64 (x167001_1 + 1), wrap64 (x167002_1 + 1), true))))) = some (r1, r2, r3, r4) := by rw [if_neg (show ¬ (false = true) by decide)] at H; exact H
          clear H
          have H := H1
          clear H1
          by_cases c19 : x167002_1 = 0
          · rw [if_pos c19] at H
            have c19b0 : (x167002_1 == 0) = true := beq_iff_eq.mpr c19
            have c19b1 : (x167002_1 != 0) = false := bne_eq_false_iff_eq.mpr c19
            clear c19
            replace H := Option.bind_eq_some_iff.mp H
            obtain ⟨t169, A200, H⟩ := H
            replace H : (if t169 = true then (insolvencyref33_serve.l0 k1 a2 l3 (wrap64 (a1_1 + (wrap64 (x11_1 * a0_0)))) (wrap64 (x11_1 + 1)) a0_0 a0_1 a0_2 a1_0 a1_1 x167000_1 (wrap64 (x167001_1 + 1)) (wrap64 (x167002_1 + 1)) x167003_1) else (some (wrap64 (a1_1 + (wrap64 (x11_1 * a0_0))), wrap64 (x167001_1 + 1), wrap64 (x167002_1 + 1), true))) = some (r1, r2, r3, r4) := H
            have A20 := Aside0.mk A200
            clear A200
            by_cases c21 : t169 = true
            · subst c21
              have H1 : (insolvencyref33_serve.l0 k1 a2 l3 (wrap64 (a1_1 + (wrap64 (x11_1 * a0_0)))) (wrap64 (x11_1 + 1)) a0_0 a0_1 a0_2 a1_0 a1_1 x167000_1 (wrap64 (x167001_1 + 1)) (wrap64 (x167002_1 + 1)) x167003_1) = some (r1, r2, r3, r4) := by rw [if_pos rfl] at H; exact H
              clear H
              have H := H1
              clear H1
              have H' := Aside0.mk H
              clear H
              have hnb22 := NB163_164.out
              have hnc22 := NB164_163.out
              have hnb23 := NB163_165.out
              have hnc23 := NB165_163.out
              have hnb24 := NB163_166.out
              have hnc24 := NB166_163.out
              have hcz25_0 : wr.cell? ⟨gb163, 0, none⟩ = some (.int .i64 a0_0) := (blk_cell BK163.out 0).trans rfl
              have hcz25_1 : wr.cell? ⟨gb163, 1, none⟩ = some (.int .i64 a0_1) := (blk_cell BK163.out 1).trans rfl
              have hcz25_2 : wr.cell? ⟨gb163, 2, none⟩ = some (.int .i64 a0_2) := (blk_cell BK163.out 2).trans rfl
              have hfz25_0 := blk_frozen BK163.out 0
              have hfz25_1 := blk_frozen BK163.out 1
              have hfz25_2 := blk_frozen BK163.out 2
              have hnb26 := NB166_164.out
              have hnc26 := NB164_166.out
              have hnb27 := NB166_165.out
              have hnc27 := NB165_166.out
              have hcz28_0 : wr.cell? ⟨gb166, 0, none⟩ = some (.int .i64 x167000_1) := (blk_cell BK166.out 0).trans rfl
              have hcz28_1 : wr.cell? ⟨gb166, 1, none⟩ = some (.int .i64 x167001_1) := (blk_cell BK166.out 1).trans rfl
              have hcz28_2 : wr.cell? ⟨gb166, 2, none⟩ = some (.int .i64 x167002_1) := (blk_cell BK166.out 2).trans rfl
              have hcz28_3 : wr.cell? ⟨gb166, 3, none⟩ = some (.bool x167003_1) := (blk_cell BK166.out 3).trans rfl
              have hfz28_0 := blk_frozen BK166.out 0
              have hfz28_1 := blk_frozen BK166.out 1
              have hfz28_2 := blk_frozen BK166.out 2
              have hfz28_3 := blk_frozen BK166.out 3
              go_wp2_with (first | ((with_reducible refine gate_callee (f := 23) rfl ?_); refine goesL_ (some 25) rfl rfl Try.func23 (by kernel_rfl) rfl #[.slice A3 l3.length c3, .int .i64 a2, .int .i64 x11_1, .bool false] rfl (by (try simp only [List.map_toArray, List.map_cons, List.map_nil]); first | done | rfl | (simp only [List.length_drop, List.length_take]; rfl)) ?_; (with_reducible refine (insolvencyref33_gone.calls k1 _ _ l3 a2 x11_1 false false _ ?side1 ?side2 A10.out).mono ?_); (case side1 => exact Kd.C_below HR3.out (by repeat (first | (with_reducible first | exact HB.out | apply below_alloc | apply pw_below_drewN | apply below_drew1 | refine below_set ?_ GE163.out | refine below_set ?_ GE164.out | refine below_set ?_ GE165.out | refine below_set ?_ GE166.out) | exact HB.out))); (case side2 => exact HC3.out); rintro e w' ⟨rfl, ⟨nd, rfl⟩⟩; refine ⟨_, rfl, ?_⟩; have hnb29 := NB164_165.out; have hnc29 := NB165_164.out; have hcz30_0 : wr.cell? ⟨gb164, 0, none⟩ = some (.int .i64 a1_0) := (blk_cell BK164.out 0).trans rfl; have hcz30_1 : wr.cell? ⟨gb164, 1, none⟩ = some (.int .i64 a1_1) := (blk_cell BK164.out 1).trans rfl; have hfz30_0 := blk_frozen BK164.out 0; have hfz30_1 := blk_frozen BK164.out 1) | ((with_reducible refine gate_callee (f := 23) rfl ?_); refine goesL_ (some 43) rfl rfl Try.func23 (by kernel_rfl) rfl #[.slice A3 l3.length c3, .int .i64 a2, .int .i64 x11_1, .bool true] rfl (by (try simp only [List.map_toArray, List.map_cons, List.map_nil]); first | done | rfl | (simp only [List.length_drop, List.length_take]; rfl)) ?_; (with_reducible refine (insolvencyref33_gone.calls k1 _ _ l3 a2 x11_1 true true _ ?side1 ?side2 A20.out).mono ?_); (case side1 => exact Kd.C_below HR3.out (by repeat (first | (with_reducible first | exact HB.out | apply below_alloc | apply pw_below_drewN | apply below_drew1 | refine below_set ?_ GE163.out | refine below_set ?_ GE164.out | refine below_set ?_ GE165.out | refine below_set ?_ GE166.out) | exact HB.out))); (case side2 => exact HC3.out); rintro e w' ⟨rfl, ⟨nd, rfl⟩⟩; refine ⟨_, rfl, ?_⟩))
              go_roundg k1
              case measure => have := HK1.out; omega
              case rel => exact ⟨(wrap64 (a1_1 + (wrap64 (x11_1 * a0_0)))), (wrap64 (x11_1 + 1)), (x166000_1), (x166001_1), (x166002_1), (x166003_1), (x167000_1), (wrap64 (x167001_1 + 1)), (wrap64 (x167002_1 + 1)), (x167003_1), (by first | rfl | (simp; done) | (simp [*]; done)), (by first | rfl | (simp; done) | (simp [*]; done)), H', ⟨by have := HK1.out; omega⟩, ⟨by (with_reducible repeat (first | refine blk_drewN ?_ _ | refine blk_drew ?_ | refine blk_alloc ?_ _)); refine blk_far ?_ NB163_166.out _; (with_reducible repeat (first | refine blk_drewN ?_ _ | refine blk_drew ?_ | refine blk_alloc ?_ _)); refine blk_far ?_ NB163_166.out _; (with_reducible repeat (first | refine blk_drewN ?_ _ | refine blk_drew ?_ | refine blk_alloc ?_ _)); exact BK163.out⟩, ⟨by (with_reducible repeat (first | refine blk_drewN ?_ _ | refine blk_drew ?_ | refine blk_alloc ?_ _)); refine blk_far ?_ NB164_166.out _; (with_reducible repeat (first | refine blk_drewN ?_ _ | refine blk_drew ?_ | refine blk_alloc ?_ _)); refine blk_far ?_ NB164_166.out _; (with_reducible repeat (first | refine blk_drewN ?_ _ | refine blk_drew ?_ | refine blk_alloc ?_ _)); exact BK164.out⟩, ⟨by (with_reducible repeat (first | refine blk_drewN ?_ _ | refine blk_drew ?_ | refine blk_alloc ?_ _)); refine blk_far ?_ NB165_166.out _; (with_reducible repeat (first | refine blk_drewN ?_ _ | refine blk_drew ?_ | refine blk_alloc ?_ _)); refine blk_far ?_ NB165_166.out _; (with_reducible repeat (first | refine blk_drewN ?_ _ | refine blk_drew ?_ | refine blk_alloc ?_ _)); exact BK165.out⟩, ⟨by (with_reducible repeat (first | refine blk_drewN ?_ _ | refine blk_drew ?_ | refine blk_alloc ?_ _)); refine blk_put (cs := #[.int .i64 x167000_1, .int .i64 (wrap64 (x167001_1 + 1)), .int .i64 x167002_1, .bool x167003_1]) ?_ 2 _ rfl; (with_reducible repeat (first | refine blk_drewN ?_ _ | refine blk_drew ?_ | refine blk_alloc ?_ _)); refine blk_put (cs := #[.int .i64 x167000_1, .int .i64 x167001_1, .int .i64 x167002_1, .bool x167003_1]) ?_ 1 _ rfl; (with_reducible repeat (first | refine blk_drewN ?_ _ | refine blk_drew ?_ | refine blk_alloc ?_ _)); exact BK166.out⟩, ⟨by repeat (first | (with_reducible first | exact HB.out | apply below_alloc | apply pw_below_drewN | apply below_drew1 | refine below_set ?_ GE163.out | refine below_set ?_ GE164.out | refine below_set ?_ GE165.out | refine below_set ?_ GE166.out) | exact HB.out)⟩⟩
            · replace c21 := Bool.eq_false_iff.mpr c21
              subst c21
              have H1 : (some (wrap64 (a1_1 + (wrap64 (x11_1 * a0_0))), wrap64 (x167001_1 + 1), wrap64 (x167002_1 + 1), true)) = some (r1, r2, r3, r4) := by rw [if_neg (show ¬ (false = true) by decide)] at H; exact H
              clear H
              have H := H1
              clear H1
              simp only [Option.some.injEq, Prod.mk.injEq] at H
              obtain ⟨rfl, rfl, rfl, rfl⟩ := H
              have hnb31 := NB163_164.out
              have hnc31 := NB164_163.out
              have hnb32 := NB163_165.out
              have hnc32 := NB165_163.out
              have hnb33 := NB163_166.out
              have hnc33 := NB166_163.out
              have hcz34_0 : wr.cell? ⟨gb163, 0, none⟩ = some (.int .i64 a0_0) := (blk_cell BK163.out 0).trans rfl
              have hcz34_1 : wr.cell? ⟨gb163, 1, none⟩ = some (.int .i64 a0_1) := (blk_cell BK163.out 1).trans rfl
              have hcz34_2 : wr.cell? ⟨gb163, 2, none⟩ = some (.int .i64 a0_2) := (blk_cell BK163.out 2).trans rfl
              have hfz34_0 := blk_frozen BK163.out 0
              have hfz34_1 := blk_frozen BK163.out 1
              have hfz34_2 := blk_frozen BK163.out 2
              have hnb35 := NB166_164.out
              have hnc35 := NB164_166.out
              have hnb36 := NB166_165.out
              have hnc36 := NB165_166.out
              have hcz37_0 : wr.cell? ⟨gb166, 0, none⟩ = some (.int .i64 x167000_1) := (blk_cell BK166.out 0).trans rfl
              have hcz37_1 : wr.cell? ⟨gb166, 1, none⟩ = some (.int .i64 x167001_1) := (blk_cell BK166.out 1).trans rfl
              have hcz37_2 : wr.cell? ⟨gb166, 2, none⟩ = some (.int .i64 x167002_1) := (blk_cell BK166.out 2).trans rfl
              have hcz37_3 : wr.cell? ⟨gb166, 3, none⟩ = some (.bool x167003_1) := (blk_cell BK166.out 3).trans rfl
              have hfz37_0 := blk_frozen BK166.out 0
              have hfz37_1 := blk_frozen BK166.out 1
              have hfz37_2 := blk_frozen BK166.out 2
              have hfz37_3 := blk_frozen BK166.out 3
              go_wp2_with (first | ((with_reducible refine gate_callee (f := 23) rfl ?_); refine goesL_ (some 25) rfl rfl Try.func23 (by kernel_rfl) rfl #[.slice A3 l3.length c3, .int .i64 a2, .int .i64 x11_1, .bool false] rfl (by (try simp only [List.map_toArray, List.map_cons, List.map_nil]); first | done | rfl | (simp only [List.length_drop, List.length_take]; rfl)) ?_; (with_reducible refine (insolvencyref33_gone.calls k1 _ _ l3 a2 x11_1 false false _ ?side1 ?side2 A10.out).mono ?_); (case side1 => exact Kd.C_below HR3.out (by repeat (first | (with_reducible first | exact HB.out | apply below_alloc | apply pw_below_drewN | apply below_drew1 | refine below_set ?_ GE163.out | refine below_set ?_ GE164.out | refine below_set ?_ GE165.out | refine below_set ?_ GE166.out) | exact HB.out))); (case side2 => exact HC3.out); rintro e w' ⟨rfl, ⟨nd, rfl⟩⟩; refine ⟨_, rfl, ?_⟩; have hnb38 := NB164_165.out; have hnc38 := NB165_164.out; have hcz39_0 : wr.cell? ⟨gb164, 0, none⟩ = some (.int .i64 a1_0) := (blk_cell BK164.out 0).trans rfl; have hcz39_1 : wr.cell? ⟨gb164, 1, none⟩ = some (.int .i64 a1_1) := (blk_cell BK164.out 1).trans rfl; have hfz39_0 := blk_frozen BK164.out 0; have hfz39_1 := blk_frozen BK164.out 1) | ((with_reducible refine gate_callee (f := 23) rfl ?_); refine goesL_ (some 43) rfl rfl Try.func23 (by kernel_rfl) rfl #[.slice A3 l3.length c3, .int .i64 a2, .int .i64 x11_1, .bool true] rfl (by (try simp only [List.map_toArray, List.map_cons, List.map_nil]); first | done | rfl | (simp only [List.length_drop, List.length_take]; rfl)) ?_; (with_reducible refine (insolvencyref33_gone.calls k1 _ _ l3 a2 x11_1 true false _ ?side1 ?side2 A20.out).mono ?_); (case side1 => exact Kd.C_below HR3.out (by repeat (first | (with_reducible first | exact HB.out | apply below_alloc | apply pw_below_drewN | apply below_drew1 | refine below_set ?_ GE163.out | refine below_set ?_ GE164.out | refine below_set ?_ GE165.out | refine below_set ?_ GE166.out) | exact HB.out))); (case side2 => exact HC3.out); rintro e w' ⟨rfl, ⟨nd, rfl⟩⟩; refine ⟨_, rfl, ?_⟩; have hcz40_0 : wr.cell? ⟨gb165, 0, none⟩ = some (.int .i64 x166000_1) := (blk_cell BK165.out 0).trans rfl; have hcz40_1 : wr.cell? ⟨gb165, 1, none⟩ = some (.int .i64 x166001_1) := (blk_cell BK165.out 1).trans rfl; have hcz40_2 : wr.cell? ⟨gb165, 2, none⟩ = some (.int .i64 x166002_1) := (blk_cell BK165.out 2).trans rfl; have hcz40_3 : wr.cell? ⟨gb165, 3, none⟩ = some (.bool x166003_1) := (blk_cell BK165.out 3).trans rfl; have hfz40_0 := blk_frozen BK165.out 0; have hfz40_1 := blk_frozen BK165.out 1; have hfz40_2 := blk_frozen BK165.out 2; have hfz40_3 := blk_frozen BK165.out 3))
              refine bodyPost_ret (results_cell_row rfl _ _ gb165 50 #[.int .i64 (wrap64 (a1_1 + (wrap64 (x11_1 * a0_0)))), .int .i64 (wrap64 (x167001_1 + 1)), .int .i64 (wrap64 (x167002_1 + 1)), .bool true] (0, 0) _ rfl (by (with_reducible repeat (first | refine blk_drewN ?_ _ | refine blk_drew ?_ | refine blk_alloc ?_ _)); refine blk_put (cs := #[.int .i64 (wrap64 (a1_1 + (wrap64 (x11_1 * a0_0)))), .int .i64 (wrap64 (x167001_1 + 1)), .int .i64 (wrap64 (x167002_1 + 1)), .bool x166003_1]) ?_ 3 _ rfl; (with_reducible repeat (first | refine blk_drewN ?_ _ | refine blk_drew ?_ | refine blk_alloc ?_ _)); refine blk_put (cs := #[.int .i64 (wrap64 (a1_1 + (wrap64 (x11_1 * a0_0)))), .int .i64 (wrap64 (x167001_1 + 1)), .int .i64 x166002_1, .bool x166003_1]) ?_ 2 _ rfl; (with_reducible repeat (first | refine blk_drewN ?_ _ | refine blk_drew ?_ | refine blk_alloc ?_ _)); refine blk_put (cs := #[.int .i64 (wrap64 (a1_1 + (wrap64 (x11_1 * a0_0)))), .int .i64 x166001_1, .int .i64 x166002_1, .bool x166003_1]) ?_ 1 _ rfl; (with_reducible repeat (first | refine blk_drewN ?_ _ | refine blk_drew ?_ | refine blk_alloc ?_ _)); refine blk_put (cs := #[.int .i64 x166000_1, .int .i64 x166001_1, .int .i64 x166002_1, .bool x166003_1]) ?_ 0 _ rfl; (with_reducible repeat (first | refine blk_drewN ?_ _ | refine blk_drew ?_ | refine blk_alloc ?_ _)); refine blk_far ?_ NB165_166.out _; (with_reducible repeat (first | refine blk_drewN ?_ _ | refine blk_drew ?_ | refine blk_alloc ?_ _)); refine blk_far ?_ NB165_166.out _; (with_reducible repeat (first | refine blk_drewN ?_ _ | refine blk_drew ?_ | refine blk_alloc ?_ _)); refine blk_far ?_ NB165_166.out _; (with_reducible repeat (first | refine blk_drewN ?_ _ | refine blk_drew ?_ | refine blk_alloc ?_ _)); refine blk_far ?_ NB165_166.out _; (with_reducible repeat (first | refine blk_drewN ?_ _ | refine blk_drew ?_ | refine blk_alloc ?_ _)); exact BK165.out) Try.underlying50 rfl (by kernel_rfl)) rfl ?_
              exact ⟨by first | rfl | (simp [errW_none, errW_some] <;> rfl) | (simp [*, errW_none, errW_some] <;> rfl), by repeat (first | (with_reducible first | exact HB.out | apply below_alloc | apply pw_below_drewN | apply below_drew1 | refine below_set ?_ GE163.out | refine below_set ?_ GE164.out | refine below_set ?_ GE165.out | refine below_set ?_ GE166.out) | exact HB.out)⟩
          · rw [if_neg c19] at H
            have c19b0 : (x167002_1 == 0) = false := beq_eq_false_iff_ne.mpr c19
            have c19b1 : (x167002_1 != 0) = true := bne_iff_ne.mpr c19
            replace H := Option.bind_eq_some_iff.mp H
            obtain ⟨t170, A410, H⟩ := H
            replace H : (if t170 = true then (insolvencyref33_serve.l0 k1 a2 l3 x10_1 (wrap64 (x11_1 + 1)) a0_0 a0_1 a0_2 a1_0 a1_1 x167000_1 (wrap64 (x167001_1 + 1)) (wrap64 (x167002_1 + 1)) x167003_1) else (some (x10_1, wrap64 (x167001_1 + 1), wrap64 (x167002_1 + 1), true))) = some (r1, r2, r3, r4) := H
            have A41 := Aside0.mk A410
            clear A410
            by_cases c42 : t170 = true
            · subst c42
              have H1 : (insolvencyref33_serve.l0 k1 a2 l3 x10_1 (wrap64 (x11_1 + 1)) a0_0 a0_1 a0_2 a1_0 a1_1 x167000_1 (wrap64 (x167001_1 + 1)) (wrap64 (x167002_1 + 1)) x167003_1) = some (r1, r2, r3, r4) := by rw [if_pos rfl] at H; exact H
              clear H
              have H := H1
              clear H1
              have H' := Aside0.mk H
              clear H
              have hnb43 := NB163_164.out
              have hnc43 := NB164_163.out
              have hnb44 := NB163_165.out
              have hnc44 := NB165_163.out
              have hnb45 := NB163_166.out
              have hnc45 := NB166_163.out
              have hcz46_0 : wr.cell? ⟨gb163, 0, none⟩ = some (.int .i64 a0_0) := (blk_cell BK163.out 0).trans rfl
              have hcz46_1 : wr.cell? ⟨gb163, 1, none⟩ = some (.int .i64 a0_1) := (blk_cell BK163.out 1).trans rfl
              have hcz46_2 : wr.cell? ⟨gb163, 2, none⟩ = some (.int .i64 a0_2) := (blk_cell BK163.out 2).trans rfl
              have hfz46_0 := blk_frozen BK163.out 0
              have hfz46_1 := blk_frozen BK163.out 1
              have hfz46_2 := blk_frozen BK163.out 2
              have hnb47 := NB166_164.out
              have hnc47 := NB164_166.out
              have hnb48 := NB166_165.out
              have hnc48 := NB165_166.out
              have hcz49_0 : wr.cell? ⟨gb166, 0, none⟩ = some (.int .i64 x167000_1) := (blk_cell BK166.out 0).trans rfl
              have hcz49_1 : wr.cell? ⟨gb166, 1, none⟩ = some (.int .i64 x167001_1) := (blk_cell BK166.out 1).trans rfl
              have hcz49_2 : wr.cell? ⟨gb166, 2, none⟩ = some (.int .i64 x167002_1) := (blk_cell BK166.out 2).trans rfl
              have hcz49_3 : wr.cell? ⟨gb166, 3, none⟩ = some (.bool x167003_1) := (blk_cell BK166.out 3).trans rfl
              have hfz49_0 := blk_frozen BK166.out 0
              have hfz49_1 := blk_frozen BK166.out 1
              have hfz49_2 := blk_frozen BK166.out 2
              have hfz49_3 := blk_frozen BK166.out 3
              go_wp2_with (first | ((with_reducible refine gate_callee (f := 23) rfl ?_); refine goesL_ (some 25) rfl rfl Try.func23 (by kernel_rfl) rfl #[.slice A3 l3.length c3, .int .i64 a2, .int .i64 x11_1, .bool false] rfl (by (try simp only [List.map_toArray, List.map_cons, List.map_nil]); first | done | rfl | (simp only [List.length_drop, List.length_take]; rfl)) ?_; (with_reducible refine (insolvencyref33_gone.calls k1 _ _ l3 a2 x11_1 false false _ ?side1 ?side2 A10.out).mono ?_); (case side1 => exact Kd.C_below HR3.out (by repeat (first | (with_reducible first | exact HB.out | apply below_alloc | apply pw_below_drewN | apply below_drew1 | refine below_set ?_ GE163.out | refine below_set ?_ GE164.out | refine below_set ?_ GE165.out | refine below_set ?_ GE166.out) | exact HB.out))); (case side2 => exact HC3.out); rintro e w' ⟨rfl, ⟨nd, rfl⟩⟩; refine ⟨_, rfl, ?_⟩) | ((with_reducible refine gate_callee (f := 23) rfl ?_); refine goesL_ (some 43) rfl rfl Try.func23 (by kernel_rfl) rfl #[.slice A3 l3.length c3, .int .i64 a2, .int .i64 x11_1, .bool true] rfl (by (try simp only [List.map_toArray, List.map_cons, List.map_nil]); first | done | rfl | (simp only [List.length_drop, List.length_take]; rfl)) ?_; (with_reducible refine (insolvencyref33_gone.calls k1 _ _ l3 a2 x11_1 true true _ ?side1 ?side2 A41.out).mono ?_); (case side1 => exact Kd.C_below HR3.out (by repeat (first | (with_reducible first | exact HB.out | apply below_alloc | apply pw_below_drewN | apply below_drew1 | refine below_set ?_ GE163.out | refine below_set ?_ GE164.out | refine below_set ?_ GE165.out | refine below_set ?_ GE166.out) | exact HB.out))); (case side2 => exact HC3.out); rintro e w' ⟨rfl, ⟨nd, rfl⟩⟩; refine ⟨_, rfl, ?_⟩))
              go_roundg k1
              case measure => have := HK1.out; omega
              case rel => exact ⟨(x10_1), (wrap64 (x11_1 + 1)), (x166000_1), (x166001_1), (x166002_1), (x166003_1), (x167000_1), (wrap64 (x167001_1 + 1)), (wrap64 (x167002_1 + 1)), (x167003_1), (by first | rfl | (simp; done) | (simp [*]; done)), (by first | rfl | (simp; done) | (simp [*]; done)), H', ⟨by have := HK1.out; omega⟩, ⟨by (with_reducible repeat (first | refine blk_drewN ?_ _ | refine blk_drew ?_ | refine blk_alloc ?_ _)); refine blk_far ?_ NB163_166.out _; (with_reducible repeat (first | refine blk_drewN ?_ _ | refine blk_drew ?_ | refine blk_alloc ?_ _)); refine blk_far ?_ NB163_166.out _; (with_reducible repeat (first | refine blk_drewN ?_ _ | refine blk_drew ?_ | refine blk_alloc ?_ _)); exact BK163.out⟩, ⟨by (with_reducible repeat (first | refine blk_drewN ?_ _ | refine blk_drew ?_ | refine blk_alloc ?_ _)); refine blk_far ?_ NB164_166.out _; (with_reducible repeat (first | refine blk_drewN ?_ _ | refine blk_drew ?_ | refine blk_alloc ?_ _)); refine blk_far ?_ NB164_166.out _; (with_reducible repeat (first | refine blk_drewN ?_ _ | refine blk_drew ?_ | refine blk_alloc ?_ _)); exact BK164.out⟩, ⟨by (with_reducible repeat (first | refine blk_drewN ?_ _ | refine blk_drew ?_ | refine blk_alloc ?_ _)); refine blk_far ?_ NB165_166.out _; (with_reducible repeat (first | refine blk_drewN ?_ _ | refine blk_drew ?_ | refine blk_alloc ?_ _)); refine blk_far ?_ NB165_166.out _; (with_reducible repeat (first | refine blk_drewN ?_ _ | refine blk_drew ?_ | refine blk_alloc ?_ _)); exact BK165.out⟩, ⟨by (with_reducible repeat (first | refine blk_drewN ?_ _ | refine blk_drew ?_ | refine blk_alloc ?_ _)); refine blk_put (cs := #[.int .i64 x167000_1, .int .i64 (wrap64 (x167001_1 + 1)), .int .i64 x167002_1, .bool x167003_1]) ?_ 2 _ rfl; (with_reducible repeat (first | refine blk_drewN ?_ _ | refine blk_drew ?_ | refine blk_alloc ?_ _)); refine blk_put (cs := #[.int .i64 x167000_1, .int .i64 x167001_1, .int .i64 x167002_1, .bool x167003_1]) ?_ 1 _ rfl; (with_reducible repeat (first | refine blk_drewN ?_ _ | refine blk_drew ?_ | refine blk_alloc ?_ _)); exact BK166.out⟩, ⟨by repeat (first | (with_reducible first | exact HB.out | apply below_alloc | apply pw_below_drewN | apply below_drew1 | refine below_set ?_ GE163.out | refine below_set ?_ GE164.out | refine below_set ?_ GE165.out | refine below_set ?_ GE166.out) | exact HB.out)⟩⟩
            · replace c42 := Bool.eq_false_iff.mpr c42
              subst c42
              have H1 : (some (x10_1, wrap64 (x167001_1 + 1), wrap64 (x167002_1 + 1), true)) = some (r1, r2, r3, r4) := by rw [if_neg (show ¬ (false = true) by decide)] at H; exact H
              clear H
              have H := H1
              clear H1
              simp only [Option.some.injEq, Prod.mk.injEq] at H
              obtain ⟨rfl, rfl, rfl, rfl⟩ := H
              have hnb50 := NB163_164.out
              have hnc50 := NB164_163.out
              have hnb51 := NB163_165.out
              have hnc51 := NB165_163.out
              have hnb52 := NB163_166.out
              have hnc52 := NB166_163.out
              have hcz53_0 : wr.cell? ⟨gb163, 0, none⟩ = some (.int .i64 a0_0) := (blk_cell BK163.out 0).trans rfl
              have hcz53_1 : wr.cell? ⟨gb163, 1, none⟩ = some (.int .i64 a0_1) := (blk_cell BK163.out 1).trans rfl
              have hcz53_2 : wr.cell? ⟨gb163, 2, none⟩ = some (.int .i64 a0_2) := (blk_cell BK163.out 2).trans rfl
              have hfz53_0 := blk_frozen BK163.out 0
              have hfz53_1 := blk_frozen BK163.out 1
              have hfz53_2 := blk_frozen BK163.out 2
              have hnb54 := NB166_164.out
              have hnc54 := NB164_166.out
              have hnb55 := NB166_165.out
              have hnc55 := NB165_166.out
              have hcz56_0 : wr.cell? ⟨gb166, 0, none⟩ = some (.int .i64 x167000_1) := (blk_cell BK166.out 0).trans rfl
              have hcz56_1 : wr.cell? ⟨gb166, 1, none⟩ = some (.int .i64 x167001_1) := (blk_cell BK166.out 1).trans rfl
              have hcz56_2 : wr.cell? ⟨gb166, 2, none⟩ = some (.int .i64 x167002_1) := (blk_cell BK166.out 2).trans rfl
              have hcz56_3 : wr.cell? ⟨gb166, 3, none⟩ = some (.bool x167003_1) := (blk_cell BK166.out 3).trans rfl
              have hfz56_0 := blk_frozen BK166.out 0
              have hfz56_1 := blk_frozen BK166.out 1
              have hfz56_2 := blk_frozen BK166.out 2
              have hfz56_3 := blk_frozen BK166.out 3
              go_wp2_with (first | ((with_reducible refine gate_callee (f := 23) rfl ?_); refine goesL_ (some 25) rfl rfl Try.func23 (by kernel_rfl) rfl #[.slice A3 l3.length c3, .int .i64 a2, .int .i64 x11_1, .bool false] rfl (by (try simp only [List.map_toArray, List.map_cons, List.map_nil]); first | done | rfl | (simp only [List.length_drop, List.length_take]; rfl)) ?_; (with_reducible refine (insolvencyref33_gone.calls k1 _ _ l3 a2 x11_1 false false _ ?side1 ?side2 A10.out).mono ?_); (case side1 => exact Kd.C_below HR3.out (by repeat (first | (with_reducible first | exact HB.out | apply below_alloc | apply pw_below_drewN | apply below_drew1 | refine below_set ?_ GE163.out | refine below_set ?_ GE164.out | refine below_set ?_ GE165.out | refine below_set ?_ GE166.out) | exact HB.out))); (case side2 => exact HC3.out); rintro e w' ⟨rfl, ⟨nd, rfl⟩⟩; refine ⟨_, rfl, ?_⟩) | ((with_reducible refine gate_callee (f := 23) rfl ?_); refine goesL_ (some 43) rfl rfl Try.func23 (by kernel_rfl) rfl #[.slice A3 l3.length c3, .int .i64 a2, .int .i64 x11_1, .bool true] rfl (by (try simp only [List.map_toArray, List.map_cons, List.map_nil]); first | done | rfl | (simp only [List.length_drop, List.length_take]; rfl)) ?_; (with_reducible refine (insolvencyref33_gone.calls k1 _ _ l3 a2 x11_1 true false _ ?side1 ?side2 A41.out).mono ?_); (case side1 => exact Kd.C_below HR3.out (by repeat (first | (with_reducible first | exact HB.out | apply below_alloc | apply pw_below_drewN | apply below_drew1 | refine below_set ?_ GE163.out | refine below_set ?_ GE164.out | refine below_set ?_ GE165.out | refine below_set ?_ GE166.out) | exact HB.out))); (case side2 => exact HC3.out); rintro e w' ⟨rfl, ⟨nd, rfl⟩⟩; refine ⟨_, rfl, ?_⟩; have hnb57 := NB165_164.out; have hnc57 := NB164_165.out; have hcz58_0 : wr.cell? ⟨gb165, 0, none⟩ = some (.int .i64 x166000_1) := (blk_cell BK165.out 0).trans rfl; have hcz58_1 : wr.cell? ⟨gb165, 1, none⟩ = some (.int .i64 x166001_1) := (blk_cell BK165.out 1).trans rfl; have hcz58_2 : wr.cell? ⟨gb165, 2, none⟩ = some (.int .i64 x166002_1) := (blk_cell BK165.out 2).trans rfl; have hcz58_3 : wr.cell? ⟨gb165, 3, none⟩ = some (.bool x166003_1) := (blk_cell BK165.out 3).trans rfl; have hfz58_0 := blk_frozen BK165.out 0; have hfz58_1 := blk_frozen BK165.out 1; have hfz58_2 := blk_frozen BK165.out 2; have hfz58_3 := blk_frozen BK165.out 3))
              refine bodyPost_ret (results_cell_row rfl _ _ gb165 50 #[.int .i64 x10_1, .int .i64 (wrap64 (x167001_1 + 1)), .int .i64 (wrap64 (x167002_1 + 1)), .bool true] (0, 0) _ rfl (by (with_reducible repeat (first | refine blk_drewN ?_ _ | refine blk_drew ?_ | refine blk_alloc ?_ _)); refine blk_put (cs := #[.int .i64 x10_1, .int .i64 (wrap64 (x167001_1 + 1)), .int .i64 (wrap64 (x167002_1 + 1)), .bool x166003_1]) ?_ 3 _ rfl; (with_reducible repeat (first | refine blk_drewN ?_ _ | refine blk_drew ?_ | refine blk_alloc ?_ _)); refine blk_put (cs := #[.int .i64 x10_1, .int .i64 (wrap64 (x167001_1 + 1)), .int .i64 x166002_1, .bool x166003_1]) ?_ 2 _ rfl; (with_reducible repeat (first | refine blk_drewN ?_ _ | refine blk_drew ?_ | refine blk_alloc ?_ _)); refine blk_put (cs := #[.int .i64 x10_1, .int .i64 x166001_1, .int .i64 x166002_1, .bool x166003_1]) ?_ 1 _ rfl; (with_reducible repeat (first | refine blk_drewN ?_ _ | refine blk_drew ?_ | refine blk_alloc ?_ _)); refine blk_put (cs := #[.int .i64 x166000_1, .int .i64 x166001_1, .int .i64 x166002_1, .bool x166003_1]) ?_ 0 _ rfl; (with_reducible repeat (first | refine blk_drewN ?_ _ | refine blk_drew ?_ | refine blk_alloc ?_ _)); refine blk_far ?_ NB165_166.out _; (with_reducible repeat (first | refine blk_drewN ?_ _ | refine blk_drew ?_ | refine blk_alloc ?_ _)); refine blk_far ?_ NB165_166.out _; (with_reducible repeat (first | refine blk_drewN ?_ _ | refine blk_drew ?_ | refine blk_alloc ?_ _)); refine blk_far ?_ NB165_166.out _; (with_reducible repeat (first | refine blk_drewN ?_ _ | refine blk_drew ?_ | refine blk_alloc ?_ _)); refine blk_far ?_ NB165_166.out _; (with_reducible repeat (first | refine blk_drewN ?_ _ | refine blk_drew ?_ | refine blk_alloc ?_ _)); exact BK165.out) Try.underlying50 rfl (by kernel_rfl)) rfl ?_
              exact ⟨by first | rfl | (simp [errW_none, errW_some] <;> rfl) | (simp [*, errW_none, errW_some] <;> rfl), by repeat (first | (with_reducible first | exact HB.out | apply below_alloc | apply pw_below_drewN | apply below_drew1 | refine below_set ?_ GE163.out | refine below_set ?_ GE164.out | refine below_set ?_ GE165.out | refine below_set ?_ GE166.out) | exact HB.out)⟩
      · rw [if_neg c9] at H
        have c9b0 : decide (x11_1 < a0_1) = false := decide_eq_false c9
        clear c9
        replace H := Option.bind_eq_some_iff.mp H
        obtain ⟨t167, A590, H⟩ := H
        replace H : (some (t167, x167001_1, x167002_1, x167003_1)) = some (r1, r2, r3, r4) := H
        have A59 := Aside0.mk A590
        clear A590
        simp only [Option.some.injEq, Prod.mk.injEq] at H
        obtain ⟨rfl, rfl, rfl, rfl⟩ := H
        have hnb60 := NB163_164.out
        have hnc60 := NB164_163.out
        have hnb61 := NB163_165.out
        have hnc61 := NB165_163.out
        have hnb62 := NB163_166.out
        have hnc62 := NB166_163.out
        have hcz63_0 : wr.cell? ⟨gb163, 0, none⟩ = some (.int .i64 a0_0) := (blk_cell BK163.out 0).trans rfl
        have hcz63_1 : wr.cell? ⟨gb163, 1, none⟩ = some (.int .i64 a0_1) := (blk_cell BK163.out 1).trans rfl
        have hcz63_2 : wr.cell? ⟨gb163, 2, none⟩ = some (.int .i64 a0_2) := (blk_cell BK163.out 2).trans rfl
        have hfz63_0 := blk_frozen BK163.out 0
        have hfz63_1 := blk_frozen BK163.out 1
        have hfz63_2 := blk_frozen BK163.out 2
        have hnb64 := NB164_165.out
        have hnc64 := NB165_164.out
        have hnb65 := NB164_166.out
        have hnc65 := NB166_164.out
        have hcz66_0 : wr.cell? ⟨gb164, 0, none⟩ = some (.int .i64 a1_0) := (blk_cell BK164.out 0).trans rfl
        have hcz66_1 : wr.cell? ⟨gb164, 1, none⟩ = some (.int .i64 a1_1) := (blk_cell BK164.out 1).trans rfl
        have hfz66_0 := blk_frozen BK164.out 0
        have hfz66_1 := blk_frozen BK164.out 1
        go_wp2_with (first | ((with_reducible refine gate_callee (f := 19) rfl ?_); refine goesL_ (some 51) rfl rfl Try.func19 (by kernel_rfl) rfl #[.agg #[.int .i64 a0_0, .int .i64 a0_1, .int .i64 a0_2], .agg #[.int .i64 a1_0, .int .i64 a1_1]] rfl (by (try simp only [List.map_toArray, List.map_cons, List.map_nil]); first | done | rfl | (simp only [List.length_drop, List.length_take]; rfl)) ?_; (with_reducible refine (insolvencyref33_Latest.calls a0_0 a0_1 a0_2 a1_0 a1_1 t167 _ A59.out).mono ?_); rintro e w67 ⟨rfl, hb⟩; refine ⟨_, rfl, ?_⟩; have n0_ := Aside0.mk (blk_below (g := gb163) (o := .cells #[.int .i64 a0_0, .int .i64 a0_1, .int .i64 a0_2] 23 (0, 0)) (by (with_reducible repeat (first | refine blk_drewN ?_ _ | refine blk_drew ?_ | refine blk_alloc ?_ _)); exact BK163.out) hb); have n1_ := Aside0.mk (blk_below (g := gb164) (o := .cells #[.int .i64 a1_0, .int .i64 a1_1] 46 (0, 0)) (by (with_reducible repeat (first | refine blk_drewN ?_ _ | refine blk_drew ?_ | refine blk_alloc ?_ _)); exact BK164.out) hb); have n2_ := Aside0.mk (blk_below (g := gb165) (o := .cells #[.int .i64 x166000_1, .int .i64 x166001_1, .int .i64 x166002_1, .bool x166003_1] 50 (0, 0)) (by (with_reducible repeat (first | refine blk_drewN ?_ _ | refine blk_drew ?_ | refine blk_alloc ?_ _)); exact BK165.out) hb); have n3_ := Aside0.mk (blk_below (g := gb166) (o := .cells #[.int .i64 x167000_1, .int .i64 x167001_1, .int .i64 x167002_1, .bool x167003_1] 50 (0, 0)) (by (with_reducible repeat (first | refine blk_drewN ?_ _ | refine blk_drew ?_ | refine blk_alloc ?_ _)); exact BK166.out) hb); have n4_ := Aside0.mk (below_step (by repeat (first | (with_reducible first | exact HB.out | apply below_alloc | apply pw_below_drewN | apply below_drew1 | refine below_set ?_ GE163.out | refine below_set ?_ GE164.out | refine below_set ?_ GE165.out | refine below_set ?_ GE166.out) | exact HB.out)) hb); clear BK163; clear BK164; clear BK165; clear BK166; clear HB; have BK163 := n0_; have BK164 := n1_; have BK165 := n2_; have BK166 := n3_; have HB := n4_; clear n0_ n1_ n2_ n3_ n4_; (try clear hb); (try clear hb2); (try clear hk); (try clear hi); have hnb68 := NB166_165.out; have hnc68 := NB165_166.out; have hcz69_0 : w67.cell? ⟨gb166, 0, none⟩ = some (.int .i64 x167000_1) := (blk_cell BK166.out 0).trans rfl; have hcz69_1 : w67.cell? ⟨gb166, 1, none⟩ = some (.int .i64 x167001_1) := (blk_cell BK166.out 1).trans rfl; have hcz69_2 : w67.cell? ⟨gb166, 2, none⟩ = some (.int .i64 x167002_1) := (blk_cell BK166.out 2).trans rfl; have hcz69_3 : w67.cell? ⟨gb166, 3, none⟩ = some (.bool x167003_1) := (blk_cell BK166.out 3).trans rfl; have hfz69_0 := blk_frozen BK166.out 0; have hfz69_1 := blk_frozen BK166.out 1; have hfz69_2 := blk_frozen BK166.out 2; have hfz69_3 := blk_frozen BK166.out 3; have hcz70_0 : w67.cell? ⟨gb165, 0, none⟩ = some (.int .i64 x166000_1) := (blk_cell BK165.out 0).trans rfl; have hcz70_1 : w67.cell? ⟨gb165, 1, none⟩ = some (.int .i64 x166001_1) := (blk_cell BK165.out 1).trans rfl; have hcz70_2 : w67.cell? ⟨gb165, 2, none⟩ = some (.int .i64 x166002_1) := (blk_cell BK165.out 2).trans rfl; have hcz70_3 : w67.cell? ⟨gb165, 3, none⟩ = some (.bool x166003_1) := (blk_cell BK165.out 3).trans rfl; have hfz70_0 := blk_frozen BK165.out 0; have hfz70_1 := blk_frozen BK165.out 1; have hfz70_2 := blk_frozen BK165.out 2; have hfz70_3 := blk_frozen BK165.out 3))
        refine bodyPost_ret (results_cell_row rfl _ _ gb165 50 #[.int .i64 t167, .int .i64 x167001_1, .int .i64 x167002_1, .bool x167003_1] (0, 0) _ rfl (by (with_reducible repeat (first | refine blk_drewN ?_ _ | refine blk_drew ?_ | refine blk_alloc ?_ _)); refine blk_put (cs := #[.int .i64 t167, .int .i64 x167001_1, .int .i64 x167002_1, .bool x166003_1]) ?_ 3 _ rfl; (with_reducible repeat (first | refine blk_drewN ?_ _ | refine blk_drew ?_ | refine blk_alloc ?_ _)); refine blk_put (cs := #[.int .i64 t167, .int .i64 x167001_1, .int .i64 x166002_1, .bool x166003_1]) ?_ 2 _ rfl; (with_reducible repeat (first | refine blk_drewN ?_ _ | refine blk_drew ?_ | refine blk_alloc ?_ _)); refine blk_put (cs := #[.int .i64 t167, .int .i64 x166001_1, .int .i64 x166002_1, .bool x166003_1]) ?_ 1 _ rfl; (with_reducible repeat (first | refine blk_drewN ?_ _ | refine blk_drew ?_ | refine blk_alloc ?_ _)); refine blk_put (cs := #[.int .i64 x166000_1, .int .i64 x166001_1, .int .i64 x166002_1, .bool x166003_1]) ?_ 0 _ rfl; (with_reducible repeat (first | refine blk_drewN ?_ _ | refine blk_drew ?_ | refine blk_alloc ?_ _)); refine blk_far ?_ NB165_166.out _; (with_reducible repeat (first | refine blk_drewN ?_ _ | refine blk_drew ?_ | refine blk_alloc ?_ _)); exact BK165.out) Try.underlying50 rfl (by kernel_rfl)) rfl ?_
        exact ⟨by first | rfl | (simp [errW_none, errW_some] <;> rfl) | (simp [*, errW_none, errW_some] <;> rfl), by repeat (first | (with_reducible first | exact HB.out | apply below_alloc | apply pw_below_drewN | apply below_drew1 | refine below_set ?_ GE163.out | refine below_set ?_ GE164.out | refine below_set ?_ GE165.out | refine below_set ?_ GE166.out) | exact HB.out)⟩

/-! ### insolvencyref33_Serve: function 16 -/
def insolvencyref33_Serve.l0 : Nat → List (S46) → List (S54) → List (S50) → Int → Int → Int → Int → Option ((List (S50)) × Int)
  | 0, _, _, _, _, _, _, _ => none
  | k + 1, x1, x2, x9, x10, x172000, x172001, x172002 => if x10 < (x1.length : Int) then (if 0 ≤ x10 then ((insolvencyref33_serve.f k x172000 x172001 x172002 ((rd_T46 x1 x10).f0) ((rd_T46 x1 x10).f1) x10 x2).bind fun bt174 => (if x9.length < 4398046511104 then (insolvencyref33_Serve.l0 k x1 x2 (x9 ++ [(⟨bt174.1, bt174.2.1, bt174.2.2.1, bt174.2.2.2⟩ : S50)]) (wrap64 (x10 + 1)) x172000 x172001 x172002) else (none))) else (none)) else (some (x9, 0))
def insolvencyref33_Serve.f (k : Nat) (a0_0 : Int) (a0_1 : Int) (a0_2 : Int) (l1 : List (S46)) (l2 : List (S54)) : Option ((List (S50)) × Int) := (insolvencyref33_CheckPost.f k a0_0 a0_1 a0_2 l1 l2).bind fun t172 => (if t172 = 0 then (insolvencyref33_Serve.l0 k l1 l2 ([] : List (S50)) 0 a0_0 a0_1 a0_2) else (some (([] : List (S50)), t172)))
theorem insolvencyref33_Serve.mono_l : ∀ k, (∀ y0 y1 y2 y3 y4 y5 y6, LeO (insolvencyref33_Serve.l0 k y0 y1 y2 y3 y4 y5 y6) (insolvencyref33_Serve.l0 (k + 1) y0 y1 y2 y3 y4 y5 y6))
  | 0 => fun _ _ _ _ _ _ _ r h => by simp [insolvencyref33_Serve.l0] at h
  | k + 1 => by
    have ih0 := insolvencyref33_Serve.mono_l k
    · intro y0 y1 y2 y3 y4 y5 y6
      unfold insolvencyref33_Serve.l0
      repeat' first
      | (with_reducible exact ih0 _ _ _ _ _ _ _)
      | (with_reducible exact insolvencyref33_CheckPost.mono _ _ _ _ _ _)
      | (with_reducible exact insolvencyref33_serve.mono _ _ _ _ _ _ _ _)
      | (with_reducible exact LeO.refl _)
      | (with_reducible exact LeO.none _)
      | (with_reducible refine LeO.ite ?_ ?_)
      | (with_reducible refine LeO.bind ?_ (fun _ => ?_))
      | exact ih0 _ _ _ _ _ _ _
      | exact insolvencyref33_CheckPost.mono _ _ _ _ _ _
      | exact insolvencyref33_serve.mono _ _ _ _ _ _ _ _
      | exact LeO.none _
      | refine LeO.ite ?_ ?_
      | refine LeO.bind ?_ (fun _ => ?_)
theorem insolvencyref33_Serve.mono : ∀ a0 a1 a2 a3 a4 k, LeO (insolvencyref33_Serve.f k a0 a1 a2 a3 a4) (insolvencyref33_Serve.f (k + 1) a0 a1 a2 a3 a4) := by
  intro a0 a1 a2 a3 a4 k
  have ih0 := insolvencyref33_Serve.mono_l k
  unfold insolvencyref33_Serve.f
  repeat' first
      | (with_reducible exact ih0 _ _ _ _ _ _ _)
      | (with_reducible exact insolvencyref33_CheckPost.mono _ _ _ _ _ _)
      | (with_reducible exact insolvencyref33_serve.mono _ _ _ _ _ _ _ _)
      | (with_reducible exact LeO.refl _)
      | (with_reducible exact LeO.none _)
      | (with_reducible refine LeO.ite ?_ ?_)
      | (with_reducible refine LeO.bind ?_ (fun _ => ?_))
      | exact ih0 _ _ _ _ _ _ _
      | exact insolvencyref33_CheckPost.mono _ _ _ _ _ _
      | exact insolvencyref33_serve.mono _ _ _ _ _ _ _ _
      | exact LeO.none _
      | refine LeO.ite ?_ ?_
      | refine LeO.bind ?_ (fun _ => ?_)
def insolvencyref33_Serve.T8 : Bool × List (List Nat × List Nat) := (true, [([], []), ([], []), ([], []), ([], []), ([2, 3], [2, 3]), ([4], [4]), ([], []), ([], []), ([1, 5, 6, 7], [1, 5, 6, 7]), ([8], [8]), ([0, 9, 8], [0, 9]), ([10, 10, 0, 1, 2, 3, 4, 5, 6, 7, 8, 9, 10], [0, 10])])
def insolvencyref33_Serve.B8 : List Nat := [0, 0, 0, 0, 12, 28, 0, 0, 254, 510, 1023, 2047]
theorem insolvencyref33_Serve.tab8 : rtab .any (opsOf Try.f16 8) = insolvencyref33_Serve.T8 := by kernel_rfl
theorem insolvencyref33_Serve.bits8 : waitsOk insolvencyref33_Serve.T8.2 insolvencyref33_Serve.B8 = true := by kernel_rfl
set_option maxHeartbeats 8000000 in
set_option maxRecDepth 100000 in
theorem insolvencyref33_Serve.calls (k : Nat) (a0_0 : Int) (a0_1 : Int) (a0_2 : Int) (A1 : Option Addr) (c1 : Nat) (l1 : List (S46)) (A2 : Option Addr) (c2 : Nat) (l2 : List (S54)) (r1 : List (S50)) (r2 : Int) (w : World) (hr1 : Kd.C k46 w A1 l1.length l1) (hc1 : l1.length ≤ c1) (hr2 : Kd.C k54 w A2 l2.length l2) (hc2 : l2.length ≤ c2) (h : insolvencyref33_Serve.f k a0_0 a0_1 a0_2 l1 l2 = some (r1, r2)) :
    Calls Try.prog 16 #[.agg #[.int .i64 a0_0, .int .i64 a0_1, .int .i64 a0_2], .slice A1 l1.length c1, .slice A2 l2.length c2] w fun e w' => ∃ v0_ : Value, e = .returned (.tuple #[v0_, .int .i64 r2]) ∧ Kd.R k50 50 w' w.heap.size (fun _ => True) v0_ r1 ∧ Below w.heap.size w w' := by
  have hu23 := Try.underlying23
  have hu46 := Try.underlying46
  have HR1 := Aside0.mk hr1
  have HC1 := Aside0.mk hc1
  clear hr1 hc1
  have HR2 := Aside0.mk hr2
  have HC2 := Aside0.mk hc2
  clear hr2 hc2
  have HB := Aside0.mk (Below.refl w.heap.size w)
  have H : ((insolvencyref33_CheckPost.f k a0_0 a0_1 a0_2 l1 l2).bind fun t172 => (if t172 = 0 then (insolvencyref33_Serve.l0 k l1 l2 ([] : List (S50)) 0 a0_0 a0_1 a0_2) else (some (([] : List (S50)), t172)))) = some (r1, r2) := h
  clear h
  replace H := Option.bind_eq_some_iff.mp H
  obtain ⟨t172, A40, H⟩ := H
  replace H : (if t172 = 0 then (insolvencyref33_Serve.l0 k l1 l2 ([] : List (S50)) 0 a0_0 a0_1 a0_2) else (some (([] : List (S50)), t172))) = some (r1, r2) := H
  have A4 := Aside0.mk A40
  clear A40
  by_cases c5 : t172 = 0
  · rw [if_pos c5] at H
    have c5b0 : (t172 == 0) = true := beq_iff_eq.mpr c5
    have c5b1 : (t172 != 0) = false := bne_eq_false_iff_eq.mpr c5
    clear c5
    have H' := Aside0.mk H
    clear H
    go_enter Try.func16, Try.ntmps16
    go_wp2_with (first | ((with_reducible refine gate_dst (N := 3) rfl ?_); refine box_event ?hg (N := 3) ?hd (cs := #[.int .i64 a0_0, .int .i64 a0_1, .int .i64 a0_2]) (t := 23) ?hr ?_; (case hd => rfl); (case hg => rfl); (case hr => first | (go_simp; done) | (go_simp; rfl)); intro gb171 hg w6 hbox hb; have n0_ := Aside0.mk (below_step (by repeat (first | (with_reducible first | exact HB.out | apply below_alloc | apply pw_below_drewN | apply below_drew1) | exact HB.out)) hb); have n1_ := Aside0.mk (hbox); have n2_ := Aside0.mk ((by rw [hg]; exact (below_size (by repeat (first | (with_reducible first | exact HB.out | apply below_alloc | apply pw_below_drewN | apply below_drew1) | exact HB.out))) : w.heap.size ≤ gb171)); have n3_ := Aside0.mk ((by rw [hg]; exact (below_size (by repeat (first | (with_reducible first | exact HB.out | apply below_alloc | apply pw_below_drewN | apply below_drew1) | exact HB.out))) : w.heap.size ≤ gb171)); clear HB; have HB := n0_; have BK171 := n1_; have GW171 := n2_; have GE171 := n3_; clear n0_ n1_ n2_ n3_; clear hb hbox hg; have hcz7_0 : w6.cell? ⟨gb171, 0, none⟩ = some (.int .i64 a0_0) := (blk_cell BK171.out 0).trans rfl; have hcz7_1 : w6.cell? ⟨gb171, 1, none⟩ = some (.int .i64 a0_1) := (blk_cell BK171.out 1).trans rfl; have hcz7_2 : w6.cell? ⟨gb171, 2, none⟩ = some (.int .i64 a0_2) := (blk_cell BK171.out 2).trans rfl; have hfz7_0 := blk_frozen BK171.out 0; have hfz7_1 := blk_frozen BK171.out 1; have hfz7_2 := blk_frozen BK171.out 2) | ((with_reducible refine gate_callee (f := 12) rfl ?_); refine goesL_ (some 14) rfl rfl Try.func12 (by kernel_rfl) rfl #[.agg #[.int .i64 a0_0, .int .i64 a0_1, .int .i64 a0_2], .slice A1 l1.length c1, .slice A2 l2.length c2] rfl (by (try simp only [List.map_toArray, List.map_cons, List.map_nil]); first | done | rfl | (simp only [List.length_drop, List.length_take]; rfl)) ?_; (with_reducible refine (insolvencyref33_CheckPost.calls k a0_0 a0_1 a0_2 _ _ l1 _ _ l2 t172 _ ?side1 ?side2 ?side3 ?side4 A4.out).mono ?_); (case side1 => repeat (first | exact (Kd.C_below HR1.out HB.out) | (with_reducible refine Kd.C_alloc ?_ _) | (with_reducible refine Kd.C_drewN ?_ _) | (with_reducible refine Kd.C_drew ?_))); (case side2 => exact HC1.out); (case side3 => repeat (first | exact (Kd.C_below HR2.out HB.out) | (with_reducible refine Kd.C_alloc ?_ _) | (with_reducible refine Kd.C_drewN ?_ _) | (with_reducible refine Kd.C_drew ?_))); (case side4 => exact HC2.out); rintro e w8 ⟨rfl, hb⟩; refine ⟨_, rfl, ?_⟩; have n0_ := Aside0.mk (blk_below (g := gb171) (o := .cells #[.int .i64 a0_0, .int .i64 a0_1, .int .i64 a0_2] 23 (0, 0)) (by (with_reducible repeat (first | refine blk_drewN ?_ _ | refine blk_drew ?_ | refine blk_alloc ?_ _)); exact BK171.out) hb); have n1_ := Aside0.mk (below_step (by repeat (first | (with_reducible first | exact HB.out | apply below_alloc | apply pw_below_drewN | apply below_drew1 | refine below_set ?_ GE171.out) | exact HB.out)) hb); clear BK171; clear HB; have BK171 := n0_; have HB := n1_; clear n0_ n1_; (try clear hb); (try clear hb2); (try clear hk); (try clear hi)))
    go_loopg [9, 10] k (fun kq v9 v10 w' => ∃ (x9_1 : List (S50)) (x10_1 : Int), v10 = .int .i64 x10_1 ∧ Aside0 (insolvencyref33_Serve.l0 kq l1 l2 x9_1 x10_1 a0_0 a0_1 a0_2 = some (r1, r2)) ∧ Aside0 (kq ≤ k) ∧ Aside0 (Kd.R k50 50 w' w.heap.size (fun _ => True) v9 x9_1) ∧ Aside0 (w'.heap[gb171]? = some (.cells #[.int .i64 a0_0, .int .i64 a0_1, .int .i64 a0_2] 23 (0, 0))) ∧ Aside0 (Below w.heap.size w w'))
    case atStart => exact ⟨(([] : List (S50))), (0), (by first | rfl | (simp; done) | (simp [*]; done)), H', ⟨Nat.le_refl _⟩, ⟨by first | exact Kd.R_nil _ _ _ _ _ | exact Kd.N_nil _ _ _ _ _ | exact Kd.V_nil _ _ _ _ _ | exact Kd.Q_nil _ _ _ _ _ | exact Kd.S_nil _ _ _ _ _⟩, ⟨by (with_reducible repeat (first | refine blk_drewN ?_ _ | refine blk_drew ?_ | refine blk_alloc ?_ _)); exact BK171.out⟩, ⟨by repeat (first | (with_reducible first | exact HB.out | apply below_alloc | apply pw_below_drewN | apply below_drew1 | refine below_set ?_ GE171.out) | exact HB.out)⟩⟩
    case round =>
      clear H'
      try clear c1
      try clear c2
      try clear p2
      try clear c5
      try clear c5b0
      try clear c5b1
      try clear hcz7_0
      try clear hcz7_1
      try clear hcz7_2
      try clear hfz7_0
      try clear hfz7_1
      try clear hfz7_2
      obtain ⟨x9_1, x10_1, rfl, HA, HK1, HO_9, BK171, HB⟩ := hrel
      cases gk with
      | zero => exact absurd HA.out (by simp [insolvencyref33_Serve.l0])
      | succ k1 =>
        have H := HA.out
        clear HA
        simp only [insolvencyref33_Serve.l0] at H
        by_cases c9 : x10_1 < (l1.length : Int)
        · rw [if_pos c9] at H
          have c9b0 : decide (x10_1 < (l1.length : Int)) = true := decide_eq_true c9
          clear c9
          by_cases c10 : 0 ≤ x10_1
          · rw [if_pos c10] at H
            have c10b0 : decide (0 ≤ x10_1) = true := decide_eq_true c10
            clear c10
            replace H := Option.bind_eq_some_iff.mp H
            obtain ⟨⟨t174, t175, t176, t177⟩, A110, H⟩ := H
            replace H : (if x9_1.length < 4398046511104 then (insolvencyref33_Serve.l0 k1 l1 l2 (x9_1 ++ [(⟨t174, t175, t176, t177⟩ : S50)]) (wrap64 (x10_1 + 1)) a0_0 a0_1 a0_2) else (none)) = some (r1, r2) := H
            have A11 := Aside0.mk A110
            clear A110
            by_cases c12 : x9_1.length < 4398046511104
            · rw [if_pos c12] at H
              have LMc12 := Aside0.mk c12
              clear c12
              obtain ⟨y178, hy178⟩ : ∃ y_ : List (S50), y_ = (x9_1 ++ [(⟨t174, t175, t176, t177⟩ : S50)]) := ⟨_, rfl⟩
              replace H : (insolvencyref33_Serve.l0 k1 l1 l2 y178 (wrap64 (x10_1 + 1)) a0_0 a0_1 a0_2) = some (r1, r2) := by first | (rw [hy178]; with_reducible exact H) | (have H2_ := (Option.bind_some _ _).symm.trans H; rw [hy178]; with_reducible exact H2_) | (have H2_ := (Option.bind_some _ _).symm.trans H; with_reducible exact H2_) | with_reducible exact H | (rw [hy178]; exact H) | exact H
              have Ny178 := Aside0.mk hy178
              clear hy178
              have H' := Aside0.mk H
              clear H
              try go_wp2
              have n0_ := Aside0.mk (Kd.R_drew HO_9.out)
              have n1_ := Aside0.mk (blk_drew BK171.out)
              have n2_ := Aside0.mk (below_drew1 HB.out)
              clear HO_9
              clear BK171
              clear HB
              have HO_9 := n0_
              have BK171 := n1_
              have HB := n2_
              clear n0_ n1_ n2_
              have p173 : 0 ≤ (x10_1 : Int) := of_decide_eq_true (by first | (with_reducible assumption) | assumption)
              have q173 : x10_1 < (l1.length : Int) := of_decide_eq_true (by first | (with_reducible assumption) | assumption)
              obtain ⟨ad173, e173, hx173_0, hx173_1⟩ := at_T46 HR1.out x10_1 p173 q173
              have hw173_1 := hx173_1
              have hw173_0 := hx173_0
              cases e173
              replace hx173_0 := (HB.out.cell (World.block_lt_of_cell? w _ hx173_0)).trans hx173_0
              replace hx173_1 := (HB.out.cell (World.block_lt_of_cell? w _ hx173_1)).trans hx173_1
              replace p173 := eq_true p173
              replace q173 := eq_true q173
              refine start_ (n := 12) (S := fun w' => w'.cell? ⟨gb171, 0, none⟩ = some (.int .i64 a0_0) ∧ w'.cell? ⟨gb171, 1, none⟩ = some (.int .i64 a0_1) ∧ w'.cell? ⟨gb171, 2, none⟩ = some (.int .i64 a0_2) ∧ w'.cell? (ad173.add ((x10_1).toNat * 2)) = some (.int .i64 ((rd_T46 l1 x10_1).f0)) ∧ w'.cell? ⟨(ad173.add ((x10_1).toNat * 2)).block, (ad173.add ((x10_1).toNat * 2)).off + 1, none⟩ = some (.int .i64 ((rd_T46 l1 x10_1).f1))) (ds := []) #[false, false, false, false, false, false, false, false, false, false, false, false] (by kernel_rfl) rfl rfl ⟨(blk_cell BK171.out 0).trans rfl, (blk_cell BK171.out 1).trans rfl, (blk_cell BK171.out 2).trans rfl, ((HB.out.cell (World.block_lt_of_cell? w _ hw173_0)).trans hw173_0), ((HB.out.cell (World.block_lt_of_cell? w _ hw173_1)).trans hw173_1)⟩ (fun hHeld => ?_); refine with_tabW insolvencyref33_Serve.tab8 insolvencyref33_Serve.bits8 (fun HT_ HW_ => ?_)
              generalize wr.drew = w13 at HO_9 BK171 HB hx173_0 hx173_1 hHeld ⊢
              refine pure_ (i := 0) (N := some 24) (v := ?_) (a' := ?_) #[true, false, false, false, false, false, false, false, false, false, false, false] rfl rfl (any_of HT_.out (by kernel_rfl)) (fun _ _ _ h => h) (Or.inl ⟨by rfl, ?_⟩) ?_ ?_
              rotate_left
              · intro w'
                go_simp
                with_reducible rfl
              rotate_left
              · simp only [Act.put, List.setIfInBounds_toArray, List.set_cons_zero, List.set_cons_succ, i64_w, i32_w]
                rfl
              refine pure_ (i := 2) (N := some 26) (v := ?_) (a' := ?_) #[true, false, true, false, false, false, false, false, false, false, false, false] rfl rfl (any_of HT_.out (by kernel_rfl)) (fun _ _ _ h => h) (Or.inl ⟨by rfl, ?_⟩) ?_ ?_
              rotate_left
              · intro w'
                go_simp
                with_reducible rfl
              rotate_left
              · simp only [Act.put, List.setIfInBounds_toArray, List.set_cons_zero, List.set_cons_succ, i64_w, i32_w]
                rfl
              refine pure_ (i := 3) (N := some 27) (v := ?_) (a' := ?_) #[true, false, true, true, false, false, false, false, false, false, false, false] rfl rfl (any_of HT_.out (by kernel_rfl)) (fun _ _ _ h => h) (Or.inl ⟨by rfl, ?_⟩) ?_ ?_
              rotate_left
              · intro w'
                go_simp
                with_reducible rfl
              rotate_left
              · simp only [Act.put, List.setIfInBounds_toArray, List.set_cons_zero, List.set_cons_succ, i64_w, i32_w]
                rfl
              refine pure_ (i := 4) (N := some 28) (v := ?_) (a' := ?_) #[true, false, true, true, true, false, false, false, false, false, false, false] rfl rfl (any_of HT_.out (by kernel_rfl)) (fun _ _ _ h => h) (Or.inl ⟨by rfl, ?_⟩) ?_ ?_
              rotate_left
              · intro w'
                go_simp
                with_reducible rfl
              rotate_left
              · simp only [Act.put, List.setIfInBounds_toArray, List.set_cons_zero, List.set_cons_succ, i64_w, i32_w]
                rfl
              refine pure_ (i := 6) (N := some 30) (v := ?_) (a' := ?_) #[true, false, true, true, true, false, true, false, false, false, false, false] rfl rfl (any_of HT_.out (by kernel_rfl)) (fun _ _ _ h => h) (Or.inl ⟨by rfl, ?_⟩) ?_ ?_
              rotate_left
              · intro w'
                go_simp
                with_reducible rfl
              rotate_left
              · simp only [Act.put, List.setIfInBounds_toArray, List.set_cons_zero, List.set_cons_succ, i64_w, i32_w]
                rfl
              refine pure_ (i := 7) (N := some 31) (v := ?_) (a' := ?_) #[true, false, true, true, true, false, true, true, false, false, false, false] rfl rfl (any_of HT_.out (by kernel_rfl)) (fun _ _ _ h => h) (Or.inl ⟨by rfl, ?_⟩) ?_ ?_
              rotate_left
              · intro w'
                go_simp
                with_reducible rfl
              rotate_left
              · simp only [Act.put, List.setIfInBounds_toArray, List.set_cons_zero, List.set_cons_succ, i64_w, i32_w]
                rfl
              refine take_ (i := 1) (N := some 25) (v := ?_) (a' := ?_) #[true, true, true, true, true, false, true, true, false, false, false, false] rfl rfl (take_ofW HT_.out HW_.out (by kernel_rfl)) (fun _ _ _ h => h) (Or.inl ⟨by rfl, ?_⟩) hHeld ?_ ?_
              rotate_left
              · rintro w' ⟨s0, s1, s2, s3, s4⟩
                go_simp
                with_reducible rfl
              rotate_left
              · simp only [Act.put, List.setIfInBounds_toArray, List.set_cons_zero, List.set_cons_succ, i64_w, i32_w]
                rfl
              refine take_ (i := 5) (N := some 29) (v := ?_) (a' := ?_) #[true, true, true, true, true, true, true, true, false, false, false, false] rfl rfl (take_ofW HT_.out HW_.out (by kernel_rfl)) (fun _ _ _ h => h) (Or.inl ⟨by rfl, ?_⟩) hHeld ?_ ?_
              rotate_left
              · rintro w' ⟨s0, s1, s2, s3, s4⟩
                go_simp
                with_reducible rfl
              rotate_left
              · simp only [Act.put, List.setIfInBounds_toArray, List.set_cons_zero, List.set_cons_succ, i64_w, i32_w]
                rfl
              refine one_ (i := 8) (N := some 32) #[true, true, true, true, true, true, true, true, true, false, false, false] rfl rfl (one_of HT_.out (by kernel_rfl)) (by decide) (fun K hK => ?_)
              refine goes_ Try.func22 (by kernel_rfl) rfl #[.agg #[.int .i64 a0_0, .int .i64 a0_1, .int .i64 a0_2], .agg #[.int .i64 ((rd_T46 l1 x10_1).f0), .int .i64 ((rd_T46 l1 x10_1).f1)], .int .i64 x10_1, .slice A2 l2.length c2] (by rfl) rfl rfl (by (try simp only [List.map_toArray, List.map_cons, List.map_nil]); first | done | rfl | (simp only [List.length_drop, List.length_take]; rfl)) ?_
              with_reducible refine (insolvencyref33_serve.calls k1 a0_0 a0_1 a0_2 ((rd_T46 l1 x10_1).f0) ((rd_T46 l1 x10_1).f1) x10_1 _ _ l2 t174 t175 t176 t177 _ ?side1 ?side2 A11.out).mono ?_
              (case side1 => repeat (first | exact (Kd.C_below HR2.out HB.out) | (with_reducible refine Kd.C_alloc ?_ _) | (with_reducible refine Kd.C_drewN ?_ _) | (with_reducible refine Kd.C_drew ?_)))
              (case side2 => exact HC2.out)
              rintro e w14 ⟨rfl, hb⟩
              refine ⟨_, rfl, ?_⟩
              have n0_ := Aside0.mk (Kd.R_below (by (with_reducible repeat (first | apply Kd.R_alloc | apply Kd.R_drewN | apply Kd.R_drew)); exact HO_9.out) hb)
              have n1_ := Aside0.mk (blk_below (g := gb171) (o := .cells #[.int .i64 a0_0, .int .i64 a0_1, .int .i64 a0_2] 23 (0, 0)) (by (with_reducible repeat (first | refine blk_drewN ?_ _ | refine blk_drew ?_ | refine blk_alloc ?_ _)); exact BK171.out) hb)
              have n2_ := Aside0.mk (below_step (by repeat (first | (with_reducible first | exact HB.out | apply below_alloc | apply pw_below_drewN | apply below_drew1 | refine below_set ?_ GE171.out) | exact HB.out)) hb)
              clear HO_9
              clear BK171
              clear HB
              have HO_9 := n0_
              have BK171 := n1_
              have HB := n2_
              clear n0_ n1_ n2_
              (try clear hb)
              (try clear hb2)
              (try clear hk)
              (try clear hi)
              refine hK.out _ _ ⟨(blk_cell BK171.out 0).trans rfl, (blk_cell BK171.out 1).trans rfl, (blk_cell BK171.out 2).trans rfl, ((HB.out.cell (World.block_lt_of_cell? w _ hw173_0)).trans hw173_0), ((HB.out.cell (World.block_lt_of_cell? w _ hw173_1)).trans hw173_1)⟩ (fun hHeld => ?_)
              clear hK K
              refine norm_ (a' := ?_) ?_ ?_
              rotate_left
              · show Act.put _ (some 32) _ = _
                simp only [Act.put, List.setIfInBounds_toArray, List.set_cons_zero, List.set_cons_succ, i64_w, i32_w]
                rfl
              refine one_ (i := 9) (N := some 33) #[true, true, true, true, true, true, true, true, true, true, false, false] rfl rfl (one_of HT_.out (by kernel_rfl)) (by decide) (fun K hK => ?_)
              refine value_ (w1 := ?_) (v := ?_) (by rfl) rfl ?_ ?_
              rotate_left 2
              · go_simp
                constructor
                · rfl
                · rfl
              refine hK.out _ _ ⟨(blk_cell (blk_alloc BK171.out _) 0).trans rfl, (blk_cell (blk_alloc BK171.out _) 1).trans rfl, (blk_cell (blk_alloc BK171.out _) 2).trans rfl, (World.cell?_alloc_lt _ _ _ (World.block_lt_of_cell? _ _ (((HB.out.cell (World.block_lt_of_cell? w _ hw173_0)).trans hw173_0)))).trans (((HB.out.cell (World.block_lt_of_cell? w _ hw173_0)).trans hw173_0)), (World.cell?_alloc_lt _ _ _ (World.block_lt_of_cell? _ _ (((HB.out.cell (World.block_lt_of_cell? w _ hw173_1)).trans hw173_1)))).trans (((HB.out.cell (World.block_lt_of_cell? w _ hw173_1)).trans hw173_1))⟩ (fun hHeld => ?_)
              clear hK K
              refine norm_ (a' := ?_) ?_ ?_
              rotate_left
              · show Act.put _ (some 33) _ = _
                simp only [Act.put, List.setIfInBounds_toArray, List.set_cons_zero, List.set_cons_succ, i64_w, i32_w]
                rfl
              refine one_ (i := 10) (N := some 34) #[true, true, true, true, true, true, true, true, true, true, true, false] rfl rfl (one_of HT_.out (by kernel_rfl)) (by decide) (fun K hK => ?_)
              refine Kd.R_append_step k50 (w0 := w) w.heap.size (by rfl) (.tmp 24) (.tmp 33) 38 50 (.agg #[(.int .i64 0), (.int .i64 0), (.int .i64 0), (.bool false)]) 32 rfl Try.underlying38 info50 rfl (by decide) (by omega) u9 x9_1 (⟨t174, t175, t176, t177⟩ : S50) [.int .i64 t174, .int .i64 t175, .int .i64 t176, .bool t177] (fun _ => True) (fun _ => False) rfl rfl ?aP (fun _ hk => hk.elim) ?aF ?aO ?aB ?aS ?aL ?_
              (case aP => exact k50_mkM _ _ _ (⟨t174, t175, t176, t177⟩ : S50))
              (case aB => exact (by repeat (first | (with_reducible first | exact HB.out | apply below_alloc | apply pw_below_drewN | apply below_drew1 | refine below_set ?_ GE171.out) | exact HB.out)))
              (case aF => exact (fun _ _ => trivial))
              (case aO => exact (by (with_reducible repeat (first | apply Kd.R_alloc | apply Kd.R_drewN | apply Kd.R_drew)); exact HO_9.out))
              (case aS => exact (below_size (by repeat (first | (with_reducible first | exact HB.out | apply below_alloc | apply pw_below_drewN | apply below_drew1 | refine below_set ?_ GE171.out) | exact HB.out))))
              (case aL => have := LMc12.out; omega)
              intro v179 w15 ho hb hg hat
              rw [← Ny178.out] at ho
              have n0_ := Aside0.mk (blk_grown (g := gb171) (o := .cells #[.int .i64 a0_0, .int .i64 a0_1, .int .i64 a0_2] 23 (0, 0)) (by (with_reducible repeat (first | refine blk_drewN ?_ _ | refine blk_drew ?_ | refine blk_alloc ?_ _)); exact BK171.out) hg (Kd.R_ne HO_9.out BK171.out (by decide)))
              have n1_ := Aside0.mk (hb)
              have n2_ := Aside0.mk (ho)
              clear BK171
              clear HB
              clear HO_9
              have BK171 := n0_
              have HB := n1_
              have HO180 := n2_
              clear n0_ n1_ n2_
              clear ho hb hg hat
              refine hK.out _ _ ⟨(blk_cell BK171.out 0).trans rfl, (blk_cell BK171.out 1).trans rfl, (blk_cell BK171.out 2).trans rfl, ((HB.out.cell (World.block_lt_of_cell? w _ hw173_0)).trans hw173_0), ((HB.out.cell (World.block_lt_of_cell? w _ hw173_1)).trans hw173_1)⟩ (fun hHeld => ?_)
              clear hK K
              refine norm_ (a' := ?_) ?_ ?_
              rotate_left
              · show Act.put _ (some 34) _ = _
                simp only [Act.put, List.setIfInBounds_toArray, List.set_cons_zero, List.set_cons_succ, i64_w, i32_w]
                rfl
              refine pure_ (i := 11) (N := some 9) (v := ?_) (a' := ?_) #[true, true, true, true, true, true, true, true, true, true, true, true] rfl rfl (any_of HT_.out (by kernel_rfl)) (fun _ _ _ h => h) (Or.inl ⟨by rfl, ?_⟩) ?_ ?_
              rotate_left
              · intro w'
                go_simp
                with_reducible rfl
              rotate_left
              · simp only [Act.put, List.setIfInBounds_toArray, List.set_cons_zero, List.set_cons_succ, i64_w, i32_w]
                rfl
              refine done_ (done_of HT_.out (by kernel_rfl)) ?_
              try go_wp2
              go_roundg k1
              case measure => have := HK1.out; omega
              case rel => exact ⟨(y178), (wrap64 (x10_1 + 1)), (by first | rfl | (simp; done) | (simp [*]; done)), H', ⟨by have := HK1.out; omega⟩, ⟨by (with_reducible repeat (first | apply Kd.R_alloc | apply Kd.R_drewN | apply Kd.R_drew)); exact HO180.out⟩, ⟨by (with_reducible repeat (first | refine blk_drewN ?_ _ | refine blk_drew ?_ | refine blk_alloc ?_ _)); exact BK171.out⟩, ⟨by repeat (first | (with_reducible first | exact HB.out | apply below_alloc | apply pw_below_drewN | apply below_drew1 | refine below_set ?_ GE171.out) | exact HB.out)⟩⟩
            · rw [if_neg c12] at H
              exact absurd H (by simp)
          · rw [if_neg c10] at H
            exact absurd H (by simp)
        · rw [if_neg c9] at H
          have c9b0 : decide (x10_1 < (l1.length : Int)) = false := decide_eq_false c9
          clear c9
          simp only [Option.some.injEq, Prod.mk.injEq] at H
          obtain ⟨rfl, rfl⟩ := H
          go_wp2
          go_ret2
          exact ⟨_, by first | rfl | (simp [errW_none, errW_some] <;> rfl) | (simp [*, errW_none, errW_some] <;> rfl), by (with_reducible repeat (first | apply Kd.R_alloc | apply Kd.R_drewN | apply Kd.R_drew)); exact HO_9.out, by repeat (first | (with_reducible first | exact HB.out | apply below_alloc | apply pw_below_drewN | apply below_drew1 | refine below_set ?_ GE171.out) | exact HB.out)⟩
  · rw [if_neg c5] at H
    have c5b0 : (t172 == 0) = false := beq_eq_false_iff_ne.mpr c5
    have c5b1 : (t172 != 0) = true := bne_iff_ne.mpr c5
    simp only [Option.some.injEq, Prod.mk.injEq] at H
    obtain ⟨rfl, rfl⟩ := H
    go_enter Try.func16, Try.ntmps16
    go_wp2_with (first | ((with_reducible refine gate_dst (N := 3) rfl ?_); refine box_event ?hg (N := 3) ?hd (cs := #[.int .i64 a0_0, .int .i64 a0_1, .int .i64 a0_2]) (t := 23) ?hr ?_; (case hd => rfl); (case hg => rfl); (case hr => first | (go_simp; done) | (go_simp; rfl)); intro gb171 hg w16 hbox hb; have n0_ := Aside0.mk (below_step (by repeat (first | (with_reducible first | exact HB.out | apply below_alloc | apply pw_below_drewN | apply below_drew1) | exact HB.out)) hb); have n1_ := Aside0.mk (hbox); have n2_ := Aside0.mk ((by rw [hg]; exact (below_size (by repeat (first | (with_reducible first | exact HB.out | apply below_alloc | apply pw_below_drewN | apply below_drew1) | exact HB.out))) : w.heap.size ≤ gb171)); have n3_ := Aside0.mk ((by rw [hg]; exact (below_size (by repeat (first | (with_reducible first | exact HB.out | apply below_alloc | apply pw_below_drewN | apply below_drew1) | exact HB.out))) : w.heap.size ≤ gb171)); clear HB; have HB := n0_; have BK171 := n1_; have GW171 := n2_; have GE171 := n3_; clear n0_ n1_ n2_ n3_; clear hb hbox hg; have hcz17_0 : w16.cell? ⟨gb171, 0, none⟩ = some (.int .i64 a0_0) := (blk_cell BK171.out 0).trans rfl; have hcz17_1 : w16.cell? ⟨gb171, 1, none⟩ = some (.int .i64 a0_1) := (blk_cell BK171.out 1).trans rfl; have hcz17_2 : w16.cell? ⟨gb171, 2, none⟩ = some (.int .i64 a0_2) := (blk_cell BK171.out 2).trans rfl; have hfz17_0 := blk_frozen BK171.out 0; have hfz17_1 := blk_frozen BK171.out 1; have hfz17_2 := blk_frozen BK171.out 2) | ((with_reducible refine gate_callee (f := 12) rfl ?_); refine goesL_ (some 14) rfl rfl Try.func12 (by kernel_rfl) rfl #[.agg #[.int .i64 a0_0, .int .i64 a0_1, .int .i64 a0_2], .slice A1 l1.length c1, .slice A2 l2.length c2] rfl (by (try simp only [List.map_toArray, List.map_cons, List.map_nil]); first | done | rfl | (simp only [List.length_drop, List.length_take]; rfl)) ?_; (with_reducible refine (insolvencyref33_CheckPost.calls k a0_0 a0_1 a0_2 _ _ l1 _ _ l2 t172 _ ?side1 ?side2 ?side3 ?side4 A4.out).mono ?_); (case side1 => repeat (first | exact (Kd.C_below HR1.out HB.out) | (with_reducible refine Kd.C_alloc ?_ _) | (with_reducible refine Kd.C_drewN ?_ _) | (with_reducible refine Kd.C_drew ?_))); (case side2 => exact HC1.out); (case side3 => repeat (first | exact (Kd.C_below HR2.out HB.out) | (with_reducible refine Kd.C_alloc ?_ _) | (with_reducible refine Kd.C_drewN ?_ _) | (with_reducible refine Kd.C_drew ?_))); (case side4 => exact HC2.out); rintro e w18 ⟨rfl, hb⟩; refine ⟨_, rfl, ?_⟩; have n0_ := Aside0.mk (blk_below (g := gb171) (o := .cells #[.int .i64 a0_0, .int .i64 a0_1, .int .i64 a0_2] 23 (0, 0)) (by (with_reducible repeat (first | refine blk_drewN ?_ _ | refine blk_drew ?_ | refine blk_alloc ?_ _)); exact BK171.out) hb); have n1_ := Aside0.mk (below_step (by repeat (first | (with_reducible first | exact HB.out | apply below_alloc | apply pw_below_drewN | apply below_drew1 | refine below_set ?_ GE171.out) | exact HB.out)) hb); clear BK171; clear HB; have BK171 := n0_; have HB := n1_; clear n0_ n1_; (try clear hb); (try clear hb2); (try clear hk); (try clear hi)))
    go_ret2
    exact ⟨_, by first | rfl | (simp [errW_none, errW_some] <;> rfl) | (simp [*, errW_none, errW_some] <;> rfl), by first | exact Kd.R_nil _ _ _ _ _ | exact Kd.N_nil _ _ _ _ _ | exact Kd.V_nil _ _ _ _ _ | exact Kd.Q_nil _ _ _ _ _ | exact Kd.S_nil _ _ _ _ _, by repeat (first | (with_reducible first | exact HB.out | apply below_alloc | apply pw_below_drewN | apply below_drew1 | refine below_set ?_ GE171.out) | exact HB.out)⟩

/-! ### insolvencyref33_SameServices: function 17 -/
def insolvencyref33_SameServices.l0 : Nat → List (S50) → List (S50) → Int → Option (Bool)
  | 0, _, _, _ => none
  | k + 1, x0, x1, x5 => if x5 < (x0.length : Int) then (if 0 ≤ x5 then (if x5 < (x1.length : Int) then (if (!(((rd_T50 x0 x5).f0) == ((rd_T50 x1 x5).f0)) || (!(((rd_T50 x0 x5).f1) == ((rd_T50 x1 x5).f1)) || (!(((rd_T50 x0 x5).f2) == ((rd_T50 x1 x5).f2)) || (!(((rd_T50 x0 x5).f3) == ((rd_T50 x1 x5).f3)))))) = true then (some false) else (insolvencyref33_SameServices.l0 k x0 x1 (wrap64 (x5 + 1)))) else (none)) else (none)) else (some true)
def insolvencyref33_SameServices.f (k : Nat) (l0 : List (S50)) (l1 : List (S50)) : Option (Bool) := if (l0.length : Int) = (l1.length : Int) then (insolvencyref33_SameServices.l0 k l0 l1 0) else (some false)
theorem insolvencyref33_SameServices.mono_l : ∀ k, (∀ y0 y1 y2, LeO (insolvencyref33_SameServices.l0 k y0 y1 y2) (insolvencyref33_SameServices.l0 (k + 1) y0 y1 y2))
  | 0 => fun _ _ _ r h => by simp [insolvencyref33_SameServices.l0] at h
  | k + 1 => by
    have ih0 := insolvencyref33_SameServices.mono_l k
    · intro y0 y1 y2
      unfold insolvencyref33_SameServices.l0
      repeat' first
      | (with_reducible exact ih0 _ _ _)
      | (with_reducible exact LeO.refl _)
      | (with_reducible exact LeO.none _)
      | (with_reducible refine LeO.ite ?_ ?_)
      | (with_reducible refine LeO.bind ?_ (fun _ => ?_))
      | exact ih0 _ _ _
      | exact LeO.none _
      | refine LeO.ite ?_ ?_
      | refine LeO.bind ?_ (fun _ => ?_)
theorem insolvencyref33_SameServices.mono : ∀ a0 a1 k, LeO (insolvencyref33_SameServices.f k a0 a1) (insolvencyref33_SameServices.f (k + 1) a0 a1) := by
  intro a0 a1 k
  have ih0 := insolvencyref33_SameServices.mono_l k
  unfold insolvencyref33_SameServices.f
  repeat' first
      | (with_reducible exact ih0 _ _ _)
      | (with_reducible exact LeO.refl _)
      | (with_reducible exact LeO.none _)
      | (with_reducible refine LeO.ite ?_ ?_)
      | (with_reducible refine LeO.bind ?_ (fun _ => ?_))
      | exact ih0 _ _ _
      | exact LeO.none _
      | refine LeO.ite ?_ ?_
      | refine LeO.bind ?_ (fun _ => ?_)
set_option maxHeartbeats 8000000 in
set_option maxRecDepth 100000 in
theorem insolvencyref33_SameServices.calls (k : Nat) (A0 : Option Addr) (c0 : Nat) (l0 : List (S50)) (A1 : Option Addr) (c1 : Nat) (l1 : List (S50)) (r : Bool) (w : World) (hr0 : Kd.C k50 w A0 l0.length l0) (hc0 : l0.length ≤ c0) (hr1 : Kd.C k50 w A1 l1.length l1) (hc1 : l1.length ≤ c1) (h : insolvencyref33_SameServices.f k l0 l1 = some r) :
    Calls Try.prog 17 #[.slice A0 l0.length c0, .slice A1 l1.length c1] w fun e w' => e = .returned (.bool r) ∧ Drawn0 w w' := by
  have hu50 := Try.underlying50
  have HR0 := Aside0.mk hr0
  have HC0 := Aside0.mk hc0
  clear hr0 hc0
  have HR1 := Aside0.mk hr1
  have HC1 := Aside0.mk hc1
  clear hr1 hc1
  have H : (if (l0.length : Int) = (l1.length : Int) then (insolvencyref33_SameServices.l0 k l0 l1 0) else (some false)) = some r := h
  clear h
  by_cases c3 : (l0.length : Int) = (l1.length : Int)
  · rw [if_pos c3] at H
    have c3b0 : ((l0.length : Int) == (l1.length : Int)) = true := beq_iff_eq.mpr c3
    have c3b1 : ((l0.length : Int) != (l1.length : Int)) = false := bne_eq_false_iff_eq.mpr c3
    have c3b2 : (l0.length == l1.length) = true := by first | simpa using c3 | (simp at c3 ⊢; omega)
    clear c3
    have H' := Aside0.mk H
    clear H
    go_enter Try.func17, Try.ntmps17
    go_wp2
    repeat (go_quiet (fail); try go_wp2)
    go_loopg [5] k (fun kq v5 w' => ∃ (x5_1 : Int), v5 = .int .i64 x5_1 ∧ Aside0 (insolvencyref33_SameServices.l0 kq l0 l1 x5_1 = some r) ∧ Aside0 (kq ≤ k) ∧ Drawn0 w w')
    case atStart => exact ⟨(0), (by first | rfl | (simp; done) | (simp [*]; done)), H', ⟨Nat.le_refl _⟩, by repeat (first | exact Drawn0.refl _ | apply Drawn0.step)⟩
    case round =>
      clear H'
      try clear c1
      try clear p2
      try clear c3
      try clear c3b0
      try clear c3b1
      try clear c3b2
      obtain ⟨x5_1, rfl, HA, HK1, ⟨m1, rfl⟩⟩ := hrel
      cases gk with
      | zero => exact absurd HA.out (by simp [insolvencyref33_SameServices.l0])
      | succ k1 =>
        have H := HA.out
        clear HA
        simp only [insolvencyref33_SameServices.l0] at H
        by_cases c4 : x5_1 < (l0.length : Int)
        · rw [if_pos c4] at H
          have c4b0 : decide (x5_1 < (l0.length : Int)) = true := decide_eq_true c4
          clear c4
          by_cases c5 : 0 ≤ x5_1
          · rw [if_pos c5] at H
            have c5b0 : decide (0 ≤ x5_1) = true := decide_eq_true c5
            clear c5
            by_cases c6 : x5_1 < (l1.length : Int)
            · rw [if_pos c6] at H
              have c6b0 : decide (x5_1 < (l1.length : Int)) = true := decide_eq_true c6
              clear c6
              by_cases c7 : (!(((rd_T50 l0 x5_1).f0) == ((rd_T50 l1 x5_1).f0)) || (!(((rd_T50 l0 x5_1).f1) == ((rd_T50 l1 x5_1).f1)) || (!(((rd_T50 l0 x5_1).f2) == ((rd_T50 l1 x5_1).f2)) || (!(((rd_T50 l0 x5_1).f3) == ((rd_T50 l1 x5_1).f3)))))) = true
              · rw [if_pos c7] at H
                have c7b0 : (!(((rd_T50 l0 x5_1).f0) == ((rd_T50 l1 x5_1).f0)) || (!(((rd_T50 l0 x5_1).f1) == ((rd_T50 l1 x5_1).f1)) || (!(((rd_T50 l0 x5_1).f2) == ((rd_T50 l1 x5_1).f2)) || (!(((rd_T50 l0 x5_1).f3) == ((rd_T50 l1 x5_1).f3)))))) = true := c7
                clear c7
                obtain rfl := Option.some.inj H
                have p181 : 0 ≤ (x5_1 : Int) := of_decide_eq_true (by first | (with_reducible assumption) | assumption)
                have q181 : x5_1 < (l0.length : Int) := of_decide_eq_true (by first | (with_reducible assumption) | assumption)
                obtain ⟨ad181, e181, hx181_0, hx181_1, hx181_2, hx181_3⟩ := at_T50 HR0.out x5_1 p181 q181
                cases e181
                replace p181 := eq_true p181
                replace q181 := eq_true q181
                have p182 : 0 ≤ (x5_1 : Int) := of_decide_eq_true (by first | (with_reducible assumption) | assumption)
                have q182 : x5_1 < (l1.length : Int) := of_decide_eq_true (by first | (with_reducible assumption) | assumption)
                obtain ⟨ad182, e182, hx182_0, hx182_1, hx182_2, hx182_3⟩ := at_T50 HR1.out x5_1 p182 q182
                cases e182
                replace p182 := eq_true p182
                replace q182 := eq_true q182
                go_wp2
                repeat (go_quiet (fail); try go_wp2)
                go_ret
                exact ⟨by first | rfl | (simp; done) | (simp [*]; done), by repeat (first | exact Drawn0.refl _ | apply Drawn0.step)⟩
              · rw [if_neg c7] at H
                have c7b0 : (!(((rd_T50 l0 x5_1).f0) == ((rd_T50 l1 x5_1).f0)) || (!(((rd_T50 l0 x5_1).f1) == ((rd_T50 l1 x5_1).f1)) || (!(((rd_T50 l0 x5_1).f2) == ((rd_T50 l1 x5_1).f2)) || (!(((rd_T50 l0 x5_1).f3) == ((rd_T50 l1 x5_1).f3)))))) = false := by simpa using c7
                clear c7
                have H' := Aside0.mk H
                clear H
                have p181 : 0 ≤ (x5_1 : Int) := of_decide_eq_true (by first | (with_reducible assumption) | assumption)
                have q181 : x5_1 < (l0.length : Int) := of_decide_eq_true (by first | (with_reducible assumption) | assumption)
                obtain ⟨ad181, e181, hx181_0, hx181_1, hx181_2, hx181_3⟩ := at_T50 HR0.out x5_1 p181 q181
                cases e181
                replace p181 := eq_true p181
                replace q181 := eq_true q181
                have p182 : 0 ≤ (x5_1 : Int) := of_decide_eq_true (by first | (with_reducible assumption) | assumption)
                have q182 : x5_1 < (l1.length : Int) := of_decide_eq_true (by first | (with_reducible assumption) | assumption)
                obtain ⟨ad182, e182, hx182_0, hx182_1, hx182_2, hx182_3⟩ := at_T50 HR1.out x5_1 p182 q182
                cases e182
                replace p182 := eq_true p182
                replace q182 := eq_true q182
                go_wp2
                repeat (go_quiet (fail); try go_wp2)
                go_roundg k1
                case measure => have := HK1.out; omega
                case rel => exact ⟨(wrap64 (x5_1 + 1)), (by first | rfl | (simp; done) | (simp [*]; done)), H', ⟨by have := HK1.out; omega⟩, by repeat (first | exact Drawn0.refl _ | apply Drawn0.step)⟩
            · rw [if_neg c6] at H
              exact absurd H (by simp)
          · rw [if_neg c5] at H
            exact absurd H (by simp)
        · rw [if_neg c4] at H
          have c4b0 : decide (x5_1 < (l0.length : Int)) = false := decide_eq_false c4
          clear c4
          obtain rfl := Option.some.inj H
          go_wp2
          repeat (go_quiet (fail); try go_wp2)
          go_ret
          exact ⟨by first | rfl | (simp; done) | (simp [*]; done), by repeat (first | exact Drawn0.refl _ | apply Drawn0.step)⟩
  · rw [if_neg c3] at H
    have c3b0 : ((l0.length : Int) == (l1.length : Int)) = false := beq_eq_false_iff_ne.mpr c3
    have c3b1 : ((l0.length : Int) != (l1.length : Int)) = true := bne_iff_ne.mpr c3
    have c3b2 : (l0.length == l1.length) = false := by first | simpa using c3 | (simp at c3 ⊢; omega)
    obtain rfl := Option.some.inj H
    go_enter Try.func17, Try.ntmps17
    go_wp2
    repeat (go_quiet (fail); try go_wp2)
    go_ret
    exact ⟨by first | rfl | (simp; done) | (simp [*]; done), by repeat (first | exact Drawn0.refl _ | apply Drawn0.step)⟩

end Go.Proofs.Ytjdkfdcaicdenaa.F
