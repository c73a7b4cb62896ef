/- Part 2 of 6 of the proof of DocketPlay: texts of this claim put one behind the other by a program; each begins with its own words. -/
import Derived.Shelf.Abstract
import Derived.Test.YtpfiecjacpbhkaaProg
import Derived.Below
import Derived.Deep.Draws
import Derived.Deep.AppendLies
import Derived.Maps.AppendAt
import Derived.OwnWalk
import Derived.Laws.BytesArg
import Derived.Laws.MakeOwn
import Derived.Laws.OwnMore
import Derived.Deep.OwnRows
import Derived.Tactics
import Derived.Lib.ConvBytes
import Derived.Laws.Slices
import Derived.WalkKit
import Derived.KernelRfl
import Derived.RowKit3
import Derived.Deep.LoopGhost
import Derived.Deep.QuietTactic
import Derived.BigQuiet
import Derived.WideLaws
import Derived.Deep.DeepCutAuto
import Derived.Deep.CutBlock
import Derived.Deep.RegionHeld3
import Derived.Laws.Rows
import Derived.Lib.AppendStr
import Derived.ArgAppend
import Derived.Laws.IdiomCopy
import Derived.OrdersHeld
import Derived.Laws.BitsLemmas
import Derived.RowKit
import Derived.Shelf.SlGeneric
import Derived.Shelf.SlSortCmp.SmallK
import Derived.Shelf.SlSortCmp.Xorshift
import Derived.Shelf.SlicesG.Cmp
import Derived.Ground.SlsfProg
import Derived.Ground.SlgcProg
import Derived.Shelf.SlSortCmp.NoneTotal
import Derived.Sort.OwnSortedInts
import Derived.Test.YtpfiecjacpbhkaaZDocketPlay1
/- What the Go functions named below come to, each told as_ a Lean function ('.f'), with the proof ('.calls'): no condition beyond those that each theorem states. Written by a program of this session's over the translation. -/
namespace Go.Proofs.Ytpfiecjacpbhkaa.D
open Go.RowKit Go.Proofs.YtpfiecjacpbhkaaW.PrintWords Go.Proofs.YtpfiecjacpbhkaaW.PrintLast Go.Proofs.YtpfiecjacpbhkaaW.PrintMore
attribute [local go_sem] max2_int min2_int max_two min_two max_three min_three max_four min_four   -- for this text's walks alone
set_option linter.unusedVariables false
set_option linter.unusedSimpArgs false

/-! ### docket_sound: function 39 -/
mutual
def docket_sound.j0 : Nat → Int → Bool → Int → Int → Int → Int → Bool → Option (Bool)
 | 0, _, _, _, _, _, _, _ => none
 | k + 1, x1, x5, x104000, x104001, x104002, x104003, x104004 => if x104001 < 1 then (docket_sound.j1 k x1 x5 true x104000 x104001 x104002 x104003 x104004) else (if x104001 > 6 then (docket_sound.j1 k x1 x5 true x104000 x104001 x104002 x104003 x104004) else (if x104003 < 0 then (docket_sound.j1 k x1 x5 true x104000 x104001 x104002 x104003 x104004) else (docket_sound.j1 k x1 x5 (decide (x104003 ≥ 4)) x104000 x104001 x104002 x104003 x104004)))
def docket_sound.j1 : Nat → Int → Bool → Bool → Int → Int → Int → Int → Bool → Option (Bool)
 | 0, _, _, _, _, _, _, _, _ => none
 | k + 1, x1, x5, x19, x104000, x104001, x104002, x104003, x104004 => if x19 = true then (some false) else ((docket_running.f x104000 x104001 x104002 x104003 x104004).bind fun t104 => (if t104 = true then (if x104002 < x1 then (docket_sound.j2 k x5 true x104000 x104001 x104002 x104003 x104004) else (if x104002 > 1048576 then (docket_sound.j2 k x5 true x104000 x104001 x104002 x104003 x104004) else ((docket_running.f x104000 x104001 x104002 x104003 x104004).bind fun t105 => (if t105 = true then (docket_sound.j2 k x5 false x104000 x104001 x104002 x104003 x104004) else (docket_sound.j2 k x5 (x104002 != 0) x104000 x104001 x104002 x104003 x104004))))) else ((docket_running.f x104000 x104001 x104002 x104003 x104004).bind fun t106 => (if t106 = true then (docket_sound.j2 k x5 false x104000 x104001 x104002 x104003 x104004) else (docket_sound.j2 k x5 (x104002 != 0) x104000 x104001 x104002 x104003 x104004)))))
def docket_sound.j2 : Nat → Bool → Bool → Int → Int → Int → Int → Bool → Option (Bool)
 | 0, _, _, _, _, _, _, _ => none
 | k + 1, x5, x38, x104000, x104001, x104002, x104003, x104004 => if x38 = true then (some false) else (if x5 = true then (if x104003 = 0 then (if x104004 = true then (if x104001 = 6 then (some (x104003 == 0)) else (some false)) else (some true)) else (some false)) else (if x104004 = true then (if x104001 = 6 then (some (x104003 == 0)) else (some false)) else (some true)))
end
def docket_sound.f (k : Nat) (a0_0 : Int) (a0_1 : Int) (a0_2 : Int) (a0_3 : Int) (a0_4 : Bool) (a1 : Int) : Option (Bool) := if a0_1 = 1 then (docket_sound.j0 k a1 true a0_0 a0_1 a0_2 a0_3 a0_4) else (if a0_1 = 2 then (docket_sound.j0 k a1 true a0_0 a0_1 a0_2 a0_3 a0_4) else (docket_sound.j0 k a1 (a0_1 == 3) a0_0 a0_1 a0_2 a0_3 a0_4))
theorem docket_sound.mono_l : ∀ k, (∀ y0 y1 y2 y3 y4 y5 y6, LeO (docket_sound.j0 k y0 y1 y2 y3 y4 y5 y6) (docket_sound.j0 (k + 1) y0 y1 y2 y3 y4 y5 y6)) ∧ (∀ y0 y1 y2 y3 y4 y5 y6 y7, LeO (docket_sound.j1 k y0 y1 y2 y3 y4 y5 y6 y7) (docket_sound.j1 (k + 1) y0 y1 y2 y3 y4 y5 y6 y7)) ∧ (∀ y0 y1 y2 y3 y4 y5 y6, LeO (docket_sound.j2 k y0 y1 y2 y3 y4 y5 y6) (docket_sound.j2 (k + 1) y0 y1 y2 y3 y4 y5 y6))
 | 0 => ⟨fun _ _ _ _ _ _ _ r h => by simp [docket_sound.j0] at h, fun _ _ _ _ _ _ _ _ r h => by simp [docket_sound.j1] at h, fun _ _ _ _ _ _ _ r h => by simp [docket_sound.j2] at h⟩
 | k + 1 => by
  obtain ⟨ih0, ih1, ih2⟩ := docket_sound.mono_l k
  refine ⟨?_, ?_, ?_⟩
  ·intro y0 y1 y2 y3 y4 y5 y6
   unfold docket_sound.j0
   repeat' first
   | (with_reducible exact ih0 _ _ _ _ _ _ _)
   | (with_reducible exact ih1 _ _ _ _ _ _ _ _)
   | (with_reducible exact ih2 _ _ _ _ _ _ _)
   | (with_reducible exact LeO.refl _)
   | (with_reducible exact LeO.none _)
   | (with_reducible refine LeO.ite ?_ ?_)
   | (with_reducible refine LeO.bind ?_ (fun _ => ?_))
   | exact ih0 _ _ _ _ _ _ _
   | exact ih1 _ _ _ _ _ _ _ _
   | exact ih2 _ _ _ _ _ _ _
   | exact LeO.none _
   | refine LeO.ite ?_ ?_
   | refine LeO.bind ?_ (fun _ => ?_)
  ·intro y0 y1 y2 y3 y4 y5 y6 y7
   unfold docket_sound.j1
   repeat' first
   | (with_reducible exact ih0 _ _ _ _ _ _ _)
   | (with_reducible exact ih1 _ _ _ _ _ _ _ _)
   | (with_reducible exact ih2 _ _ _ _ _ _ _)
   | (with_reducible exact LeO.refl _)
   | (with_reducible exact LeO.none _)
   | (with_reducible refine LeO.ite ?_ ?_)
   | (with_reducible refine LeO.bind ?_ (fun _ => ?_))
   | exact ih0 _ _ _ _ _ _ _
   | exact ih1 _ _ _ _ _ _ _ _
   | exact ih2 _ _ _ _ _ _ _
   | exact LeO.none _
   | refine LeO.ite ?_ ?_
   | refine LeO.bind ?_ (fun _ => ?_)
  ·intro y0 y1 y2 y3 y4 y5 y6
   unfold docket_sound.j2
   repeat' first
   | (with_reducible exact ih0 _ _ _ _ _ _ _)
   | (with_reducible exact ih1 _ _ _ _ _ _ _ _)
   | (with_reducible exact ih2 _ _ _ _ _ _ _)
   | (with_reducible exact LeO.refl _)
   | (with_reducible exact LeO.none _)
   | (with_reducible refine LeO.ite ?_ ?_)
   | (with_reducible refine LeO.bind ?_ (fun _ => ?_))
   | exact ih0 _ _ _ _ _ _ _
   | exact ih1 _ _ _ _ _ _ _ _
   | exact ih2 _ _ _ _ _ _ _
   | exact LeO.none _
   | refine LeO.ite ?_ ?_
   | refine LeO.bind ?_ (fun _ => ?_)
theorem docket_sound.mono : ∀ a0 a1 a2 a3 a4 a5 k, LeO (docket_sound.f k a0 a1 a2 a3 a4 a5) (docket_sound.f (k + 1) a0 a1 a2 a3 a4 a5) := by
 intro a0 a1 a2 a3 a4 a5 k
 obtain ⟨ih0, ih1, ih2⟩ := docket_sound.mono_l k
 unfold docket_sound.f
 repeat' first
   | (with_reducible exact ih0 _ _ _ _ _ _ _)
   | (with_reducible exact ih1 _ _ _ _ _ _ _ _)
   | (with_reducible exact ih2 _ _ _ _ _ _ _)
   | (with_reducible exact LeO.refl _)
   | (with_reducible exact LeO.none _)
   | (with_reducible refine LeO.ite ?_ ?_)
   | (with_reducible refine LeO.bind ?_ (fun _ => ?_))
   | exact ih0 _ _ _ _ _ _ _
   | exact ih1 _ _ _ _ _ _ _ _
   | exact ih2 _ _ _ _ _ _ _
   | exact LeO.none _
   | refine LeO.ite ?_ ?_
   | refine LeO.bind ?_ (fun _ => ?_)
set_option maxHeartbeats 8000000 in
set_option maxRecDepth 100000 in
theorem docket_sound.calls (k : Nat) (a0_0 : Int) (a0_1 : Int) (a0_2 : Int) (a0_3 : Int) (a0_4 : Bool) (a1 : Int) (r : Bool) (w : World) (h : docket_sound.f k a0_0 a0_1 a0_2 a0_3 a0_4 a1 = some r) :
  Calls Try.prog 39 #[.agg #[.int .i64 a0_0, .int .i64 a0_1, .int .i64 a0_2, .int .i64 a0_3, .bool a0_4], .int .i64 a1] w fun e w' => e = .returned (.bool r) ∧ Below w.heap.size w w' := by
 have hu50 := Try.underlying50
 have HB := Aside0.mk (Below.refl w.heap.size w)
 have H : (if a0_1 = 1 then (docket_sound.j0 k a1 true a0_0 a0_1 a0_2 a0_3 a0_4) else (if a0_1 = 2 then (docket_sound.j0 k a1 true a0_0 a0_1 a0_2 a0_3 a0_4) else (docket_sound.j0 k a1 (a0_1 == 3) a0_0 a0_1 a0_2 a0_3 a0_4))) = some r := h
 clear h
 have HC3 := Aside0.mk H
 clear H
 go_enter Try.func39, Try.ntmps39
 go_upto_region 1 with (first | ((with_reducible refine gate_dst (N := 2) rfl ?_); refine boxE (N := 2) #[.int .i64 a0_0, .int .i64 a0_1, .int .i64 a0_2, .int .i64 a0_3, .bool a0_4] 50 ?_; intro gb103 hg w4 hbox hb; have BK103 := Aside0.mk (hbox); have GW103 := gS HB hg; have GE103 := gS HB hg; replace HB := Aside0.mk (below_step (pB HB) hb); clear hb hbox hg))
 (try simp only [Act.put, List.setIfInBounds_toArray, List.set_cons_zero, List.set_cons_succ])
 go_cut [5] (fun v5 wc => ∃ (kq : Nat) (x5_2 : Bool), v5 = .bool x5_2 ∧ Aside0 (docket_sound.j0 kq a1 x5_2 a0_0 a0_1 a0_2 a0_3 a0_4 = some r) ∧ Aside0 (kq ≤ k) ∧ Aside0 (wc.heap[gb103]? = some (.cells #[.int .i64 a0_0, .int .i64 a0_1, .int .i64 a0_2, .int .i64 a0_3, .bool a0_4] 50 (0, 0))) ∧ Aside0 (Below w.heap.size w wc))
 case first =>
  have H := HC3.out
  clear HC3
  by_cases c5 : a0_1 = 1
  ·rw [if_pos c5] at H
   have c5b0 : (a0_1 == 1) = true := beq_iff_eq.mpr c5
   have c5b1 : (a0_1 != 1) = false := bne_eq_false_iff_eq.mpr c5
   clear c5
   (first | rw [c5b0] | (simp only [i64_w, i32_w]; rw [c5b0]) | skip)
   have H' := Aside0.mk H
   clear H
   obtain ⟨hcz6_0, hcz6_1, hcz6_2, hcz6_3, hcz6_4⟩ := cells5 BK103
   obtain ⟨hfz6_0, hfz6_1, hfz6_2, hfz6_3, hfz6_4⟩ := frz5 BK103
   go_wp2
   go_meet
   case rel => exact ⟨_, (true), (by first | rfl | (simp; done) | (simp [*]; done)), H', ⟨by first | omega | exact Nat.le_refl _⟩, ⟨by (with_reducible repeat (first | refine blk_drewN ?_ _ | refine blk_drew ?_ | refine blk_alloc ?_ _)); exact BK103.out⟩, ⟨pB HB⟩⟩
  ·rw [if_neg c5] at H
   have c5b0 : (a0_1 == 1) = false := beq_eq_false_iff_ne.mpr c5
   have c5b1 : (a0_1 != 1) = true := bne_iff_ne.mpr c5
   (first | rw [c5b0] | (simp only [i64_w, i32_w]; rw [c5b0]) | skip)
   by_cases c7 : a0_1 = 2
   ·rw [if_pos c7] at H
    have c7b0 : (a0_1 == 2) = true := beq_iff_eq.mpr c7
    have c7b1 : (a0_1 != 2) = false := bne_eq_false_iff_eq.mpr c7
    clear c7
    have H' := Aside0.mk H
    clear H
    obtain ⟨hcz8_0, hcz8_1, hcz8_2, hcz8_3, hcz8_4⟩ := cells5 BK103
    obtain ⟨hfz8_0, hfz8_1, hfz8_2, hfz8_3, hfz8_4⟩ := frz5 BK103
    go_wp2
    go_meet
    case rel => exact ⟨_, (true), (by first | rfl | (simp; done) | (simp [*]; done)), H', ⟨by first | omega | exact Nat.le_refl _⟩, ⟨by (with_reducible repeat (first | refine blk_drewN ?_ _ | refine blk_drew ?_ | refine blk_alloc ?_ _)); exact BK103.out⟩, ⟨pB HB⟩⟩
   ·rw [if_neg c7] at H
    have c7b0 : (a0_1 == 2) = false := beq_eq_false_iff_ne.mpr c7
    have c7b1 : (a0_1 != 2) = true := bne_iff_ne.mpr c7
    have H' := Aside0.mk H
    clear H
    obtain ⟨hcz9_0, hcz9_1, hcz9_2, hcz9_3, hcz9_4⟩ := cells5 BK103
    obtain ⟨hfz9_0, hfz9_1, hfz9_2, hfz9_3, hfz9_4⟩ := frz5 BK103
    go_wp2
    go_meet
    case rel => exact ⟨_, ((a0_1 == 3)), (by first | rfl | (simp; done) | (simp [*]; done)), H', ⟨by first | omega | exact Nat.le_refl _⟩, ⟨by (with_reducible repeat (first | refine blk_drewN ?_ _ | refine blk_drew ?_ | refine blk_alloc ?_ _)); exact BK103.out⟩, ⟨pB HB⟩⟩
 case rest =>
  clear HC3
  try clear p2
  try clear c3
  try clear c5
  try clear c5b0
  try clear c5b1
  try clear c7
  try clear c7b0
  try clear c7b1
  obtain ⟨kq, x5_2, rfl, HA, HJ2, BK103, HB⟩ := hcut
  cases kq with
  | zero => exact absurd HA.out (by simp [docket_sound.j0])
  | succ kj2 =>
   have H := HA.out
   clear HA
   simp only [docket_sound.j0] at H
   have HC10 := Aside0.mk H
   clear H
   go_upto_region 2 with (fail)
   go_cut [19] (fun v19 wc => ∃ (kq : Nat) (x19_9 : Bool), v19 = .bool x19_9 ∧ Aside0 (docket_sound.j1 kq a1 x5_2 x19_9 a0_0 a0_1 a0_2 a0_3 a0_4 = some r) ∧ Aside0 (kq ≤ kj2) ∧ Aside0 (wc.heap[gb103]? = some (.cells #[.int .i64 a0_0, .int .i64 a0_1, .int .i64 a0_2, .int .i64 a0_3, .bool a0_4] 50 (0, 0))) ∧ Aside0 (Below w.heap.size w wc))
   case first =>
    have H := HC10.out
    clear HC10
    by_cases c11 : a0_1 < 1
    ·rw [if_pos c11] at H
     have c11b0 : decide (a0_1 < 1) = true := decide_eq_true c11
     clear c11
     (first | rw [c11b0] | (simp only [i64_w, i32_w]; rw [c11b0]) | skip)
     have H' := Aside0.mk H
     clear H
     obtain ⟨hcz12_0, hcz12_1, hcz12_2, hcz12_3, hcz12_4⟩ := cells5 BK103
     obtain ⟨hfz12_0, hfz12_1, hfz12_2, hfz12_3, hfz12_4⟩ := frz5 BK103
     go_wp2
     go_meet
     case rel => exact ⟨_, (true), (by first | rfl | (simp; done) | (simp [*]; done)), H', ⟨by have := HJ2.out; first | omega | exact Nat.le_refl _⟩, ⟨by (with_reducible repeat (first | refine blk_drewN ?_ _ | refine blk_drew ?_ | refine blk_alloc ?_ _)); exact BK103.out⟩, ⟨pB HB⟩⟩
    ·rw [if_neg c11] at H
     have c11b0 : decide (a0_1 < 1) = false := decide_eq_false c11
     clear c11
     (first | rw [c11b0] | (simp only [i64_w, i32_w]; rw [c11b0]) | skip)
     by_cases c13 : a0_1 > 6
     ·rw [if_pos c13] at H
      have c13b0 : decide (6 < a0_1) = true := decide_eq_true c13
      clear c13
      have H' := Aside0.mk H
      clear H
      obtain ⟨hcz14_0, hcz14_1, hcz14_2, hcz14_3, hcz14_4⟩ := cells5 BK103
      obtain ⟨hfz14_0, hfz14_1, hfz14_2, hfz14_3, hfz14_4⟩ := frz5 BK103
      go_wp2
      go_meet
      case rel => exact ⟨_, (true), (by first | rfl | (simp; done) | (simp [*]; done)), H', ⟨by have := HJ2.out; first | omega | exact Nat.le_refl _⟩, ⟨by (with_reducible repeat (first | refine blk_drewN ?_ _ | refine blk_drew ?_ | refine blk_alloc ?_ _)); exact BK103.out⟩, ⟨pB HB⟩⟩
     ·rw [if_neg c13] at H
      have c13b0 : decide (6 < a0_1) = false := decide_eq_false c13
      clear c13
      by_cases c15 : a0_3 < 0
      ·rw [if_pos c15] at H
       have c15b0 : decide (a0_3 < 0) = true := decide_eq_true c15
       clear c15
       have H' := Aside0.mk H
       clear H
       obtain ⟨hcz16_0, hcz16_1, hcz16_2, hcz16_3, hcz16_4⟩ := cells5 BK103
       obtain ⟨hfz16_0, hfz16_1, hfz16_2, hfz16_3, hfz16_4⟩ := frz5 BK103
       go_wp2
       go_meet
       case rel => exact ⟨_, (true), (by first | rfl | (simp; done) | (simp [*]; done)), H', ⟨by have := HJ2.out; first | omega | exact Nat.le_refl _⟩, ⟨by (with_reducible repeat (first | refine blk_drewN ?_ _ | refine blk_drew ?_ | refine blk_alloc ?_ _)); exact BK103.out⟩, ⟨pB HB⟩⟩
      ·rw [if_neg c15] at H
       have c15b0 : decide (a0_3 < 0) = false := decide_eq_false c15
       clear c15
       have H' := Aside0.mk H
       clear H
       obtain ⟨hcz17_0, hcz17_1, hcz17_2, hcz17_3, hcz17_4⟩ := cells5 BK103
       obtain ⟨hfz17_0, hfz17_1, hfz17_2, hfz17_3, hfz17_4⟩ := frz5 BK103
       go_wp2
       go_meet
       case rel => exact ⟨_, (decide (a0_3 ≥ 4)), (by first | rfl | (simp; done) | (simp [*]; done)), H', ⟨by have := HJ2.out; first | omega | exact Nat.le_refl _⟩, ⟨by (with_reducible repeat (first | refine blk_drewN ?_ _ | refine blk_drew ?_ | refine blk_alloc ?_ _)); exact BK103.out⟩, ⟨pB HB⟩⟩
   case rest =>
    clear HC10
    try clear c1
    try clear p2
    try clear c3
    try clear c5
    try clear c5b0
    try clear c5b1
    try clear c7
    try clear c7b0
    try clear c7b1
    try clear c11
    try clear c11b0
    try clear c13
    try clear c13b0
    try clear c15
    try clear c15b0
    try clear p2
    obtain ⟨kq, x19_9, rfl, HA, HJ9, BK103, HB⟩ := hcut
    cases kq with
    | zero => exact absurd HA.out (by simp [docket_sound.j1])
    | succ kj9 =>
     have H := HA.out
     clear HA
     simp only [docket_sound.j1] at H
     by_cases c18 : x19_9 = true
     ·subst c18
      have H1 : (some false) = some r := by rw [if_pos rfl] at H; exact H
      clear H
      have H := H1
      clear H1
      obtain rfl := Option.some.inj H
      go_wp2
      go_ret
      exact ⟨by first | rfl | (simp [errW_none, errW_some] <;> rfl) | (simp [*, errW_none, errW_some] <;> rfl), pB HB⟩
     ·replace c18 := Bool.eq_false_iff.mpr c18
      subst c18
      have H1 : ((docket_running.f a0_0 a0_1 a0_2 a0_3 a0_4).bind fun t104 => (if t104 = true then (if a0_2 < a1 then (docket_sound.j2 kj9 x5_2 true a0_0 a0_1 a0_2 a0_3 a0_4) else (if a0_2 > 1048576 then (docket_sound.j2 kj9 x5_2 true a0_0 a0_1 a0_2 a0_3 a0_4) else ((docket_running.f a0_0 a0_1 a0_2 a0_3 a0_4).bind fun t105 => (if t105 = true then (docket_sound.j2 kj9 x5_2 false a0_0 a0_1 a0_2 a0_3 a0_4) else (docket_sound.j2 kj9 x5_2 (a0_2 != 0) a0_0 a0_1 a0_2 a0_3 a0_4))))) else ((docket_running.f a0_0 a0_1 a0_2 a0_3 a0_4).bind fun t106 => (if t106 = true then (docket_sound.j2 kj9 x5_2 false a0_0 a0_1 a0_2 a0_3 a0_4) else (docket_sound.j2 kj9 x5_2 (a0_2 != 0) a0_0 a0_1 a0_2 a0_3 a0_4))))) = some r := by rw [if_neg (show ¬ (false = true) by decide)] at H; exact H
      clear H
      have H := H1
      clear H1
      have HC19 := Aside0.mk H
      clear H
      go_upto_region 4 with (fail)
      go_cut [38] (fun v38 wc => ∃ (kq : Nat) (x38_18 : Bool), v38 = .bool x38_18 ∧ Aside0 (docket_sound.j2 kq x5_2 x38_18 a0_0 a0_1 a0_2 a0_3 a0_4 = some r) ∧ Aside0 (kq ≤ kj9) ∧ Aside0 (wc.heap[gb103]? = some (.cells #[.int .i64 a0_0, .int .i64 a0_1, .int .i64 a0_2, .int .i64 a0_3, .bool a0_4] 50 (0, 0))) ∧ Aside0 (Below w.heap.size w wc))
      case first =>
       have H := HC19.out
       clear HC19
       replace H := Option.bind_eq_some_iff.mp H
       obtain ⟨t104, A200, H⟩ := H
       replace H : (if t104 = true then (if a0_2 < a1 then (docket_sound.j2 kj9 x5_2 true a0_0 a0_1 a0_2 a0_3 a0_4) else (if a0_2 > 1048576 then (docket_sound.j2 kj9 x5_2 true a0_0 a0_1 a0_2 a0_3 a0_4) else ((docket_running.f a0_0 a0_1 a0_2 a0_3 a0_4).bind fun t105 => (if t105 = true then (docket_sound.j2 kj9 x5_2 false a0_0 a0_1 a0_2 a0_3 a0_4) else (docket_sound.j2 kj9 x5_2 (a0_2 != 0) a0_0 a0_1 a0_2 a0_3 a0_4))))) else ((docket_running.f a0_0 a0_1 a0_2 a0_3 a0_4).bind fun t106 => (if t106 = true then (docket_sound.j2 kj9 x5_2 false a0_0 a0_1 a0_2 a0_3 a0_4) else (docket_sound.j2 kj9 x5_2 (a0_2 != 0) a0_0 a0_1 a0_2 a0_3 a0_4)))) = some r := H
       have A20 := Aside0.mk A200
       clear A200
       by_cases c21 : t104 = true
       ·subst c21
        have H1 : (if a0_2 < a1 then (docket_sound.j2 kj9 x5_2 true a0_0 a0_1 a0_2 a0_3 a0_4) else (if a0_2 > 1048576 then (docket_sound.j2 kj9 x5_2 true a0_0 a0_1 a0_2 a0_3 a0_4) else ((docket_running.f a0_0 a0_1 a0_2 a0_3 a0_4).bind fun t105 => (if t105 = true then (docket_sound.j2 kj9 x5_2 false a0_0 a0_1 a0_2 a0_3 a0_4) else (docket_sound.j2 kj9 x5_2 (a0_2 != 0) a0_0 a0_1 a0_2 a0_3 a0_4))))) = some r := by rw [if_pos rfl] at H; exact H
        clear H
        have H := H1
        clear H1
        by_cases c22 : a0_2 < a1
        ·rw [if_pos c22] at H
         have c22b0 : decide (a0_2 < a1) = true := decide_eq_true c22
         clear c22
         (first | rw [c22b0] | (simp only [i64_w, i32_w]; rw [c22b0]) | skip)
         have H' := Aside0.mk H
         clear H
         obtain ⟨hcz23_0, hcz23_1, hcz23_2, hcz23_3, hcz23_4⟩ := cells5 BK103
         obtain ⟨hfz23_0, hfz23_1, hfz23_2, hfz23_3, hfz23_4⟩ := frz5 BK103
         go_wp2_with (first | ((with_reducible refine gate_callee (f := 42) rfl ?_); refine goesL_ (some 40) rfl rfl Try.func42 (by kernel_rfl) rfl #[.agg #[.int .i64 a0_0, .int .i64 a0_1, .int .i64 a0_2, .int .i64 a0_3, .bool a0_4]] rfl (by (try simp only [List.map_toArray, List.map_cons, List.map_nil]); first | done | rfl | (simp only [List.length_drop, List.length_take]; rfl)) ?_; (with_reducible refine (docket_running.calls a0_0 a0_1 a0_2 a0_3 a0_4 true _ A20.out).mono ?_); rintro e w24 ⟨rfl, hb⟩; refine ⟨_, rfl, ?_⟩; replace BK103 := bB BK103 hb; replace HB := Aside0.mk (below_step (pB HB) hb); (try clear hb); obtain ⟨hcz25_0, hcz25_1, hcz25_2, hcz25_3, hcz25_4⟩ := cells5 BK103; obtain ⟨hfz25_0, hfz25_1, hfz25_2, hfz25_3, hfz25_4⟩ := frz5 BK103))
         go_meet
         case rel => exact ⟨_, (true), (by first | rfl | (simp; done) | (simp [*]; done)), H', ⟨by have := HJ2.out; have := HJ9.out; first | omega | exact Nat.le_refl _⟩, ⟨by (with_reducible repeat (first | refine blk_drewN ?_ _ | refine blk_drew ?_ | refine blk_alloc ?_ _)); exact BK103.out⟩, ⟨pB HB⟩⟩
        ·rw [if_neg c22] at H
         have c22b0 : decide (a0_2 < a1) = false := decide_eq_false c22
         clear c22
         (first | rw [c22b0] | (simp only [i64_w, i32_w]; rw [c22b0]) | skip)
         by_cases c26 : a0_2 > 1048576
         ·rw [if_pos c26] at H
          have c26b0 : decide (1048576 < a0_2) = true := decide_eq_true c26
          clear c26
          have H' := Aside0.mk H
          clear H
          obtain ⟨hcz27_0, hcz27_1, hcz27_2, hcz27_3, hcz27_4⟩ := cells5 BK103
          obtain ⟨hfz27_0, hfz27_1, hfz27_2, hfz27_3, hfz27_4⟩ := frz5 BK103
          go_wp2_with (first | ((with_reducible refine gate_callee (f := 42) rfl ?_); refine goesL_ (some 40) rfl rfl Try.func42 (by kernel_rfl) rfl #[.agg #[.int .i64 a0_0, .int .i64 a0_1, .int .i64 a0_2, .int .i64 a0_3, .bool a0_4]] rfl (by (try simp only [List.map_toArray, List.map_cons, List.map_nil]); first | done | rfl | (simp only [List.length_drop, List.length_take]; rfl)) ?_; (with_reducible refine (docket_running.calls a0_0 a0_1 a0_2 a0_3 a0_4 true _ A20.out).mono ?_); rintro e w28 ⟨rfl, hb⟩; refine ⟨_, rfl, ?_⟩; replace BK103 := bB BK103 hb; replace HB := Aside0.mk (below_step (pB HB) hb); (try clear hb); obtain ⟨hcz29_0, hcz29_1, hcz29_2, hcz29_3, hcz29_4⟩ := cells5 BK103; obtain ⟨hfz29_0, hfz29_1, hfz29_2, hfz29_3, hfz29_4⟩ := frz5 BK103))
          go_meet
          case rel => exact ⟨_, (true), (by first | rfl | (simp; done) | (simp [*]; done)), H', ⟨by have := HJ2.out; have := HJ9.out; first | omega | exact Nat.le_refl _⟩, ⟨by (with_reducible repeat (first | refine blk_drewN ?_ _ | refine blk_drew ?_ | refine blk_alloc ?_ _)); exact BK103.out⟩, ⟨pB HB⟩⟩
         ·rw [if_neg c26] at H
          have c26b0 : decide (1048576 < a0_2) = false := decide_eq_false c26
          clear c26
          replace H := Option.bind_eq_some_iff.mp H
          obtain ⟨t105, A300, H⟩ := H
          replace H : (if t105 = true then (docket_sound.j2 kj9 x5_2 false a0_0 a0_1 a0_2 a0_3 a0_4) else (docket_sound.j2 kj9 x5_2 (a0_2 != 0) a0_0 a0_1 a0_2 a0_3 a0_4)) = some r := H
          have A30 := Aside0.mk A300
          clear A300
          by_cases c31 : t105 = true
          ·subst c31
           have H1 : (docket_sound.j2 kj9 x5_2 false a0_0 a0_1 a0_2 a0_3 a0_4) = some r := by rw [if_pos rfl] at H; exact H
           clear H
           have H := H1
           clear H1
           have H' := Aside0.mk H
           clear H
           obtain ⟨hcz32_0, hcz32_1, hcz32_2, hcz32_3, hcz32_4⟩ := cells5 BK103
           obtain ⟨hfz32_0, hfz32_1, hfz32_2, hfz32_3, hfz32_4⟩ := frz5 BK103
           go_wp2_with (first | ((with_reducible refine gate_callee (f := 42) rfl ?_); refine goesL_ (some 40) rfl rfl Try.func42 (by kernel_rfl) rfl #[.agg #[.int .i64 a0_0, .int .i64 a0_1, .int .i64 a0_2, .int .i64 a0_3, .bool a0_4]] rfl (by (try simp only [List.map_toArray, List.map_cons, List.map_nil]); first | done | rfl | (simp only [List.length_drop, List.length_take]; rfl)) ?_; (with_reducible refine (docket_running.calls a0_0 a0_1 a0_2 a0_3 a0_4 true _ A20.out).mono ?_); rintro e w33 ⟨rfl, hb⟩; refine ⟨_, rfl, ?_⟩; replace BK103 := bB BK103 hb; replace HB := Aside0.mk (below_step (pB HB) hb); (try clear hb); obtain ⟨hcz34_0, hcz34_1, hcz34_2, hcz34_3, hcz34_4⟩ := cells5 BK103; obtain ⟨hfz34_0, hfz34_1, hfz34_2, hfz34_3, hfz34_4⟩ := frz5 BK103) | (go_at_call 42; (with_reducible refine (docket_running.calls a0_0 a0_1 a0_2 a0_3 a0_4 true _ A30.out).mono ?_); rintro e w35 ⟨rfl, hb⟩; replace BK103 := bB BK103 hb; replace HB := Aside0.mk (below_step (pB HB) hb); (try clear hb)))
           go_meet
           case rel => exact ⟨_, (false), (by first | rfl | (simp; done) | (simp [*]; done)), H', ⟨by have := HJ2.out; have := HJ9.out; first | omega | exact Nat.le_refl _⟩, ⟨by (with_reducible repeat (first | refine blk_drewN ?_ _ | refine blk_drew ?_ | refine blk_alloc ?_ _)); exact BK103.out⟩, ⟨pB HB⟩⟩
          ·replace c31 := Bool.eq_false_iff.mpr c31
           subst c31
           have H1 : (docket_sound.j2 kj9 x5_2 (a0_2 != 0) a0_0 a0_1 a0_2 a0_3 a0_4) = some r := by rw [if_neg (show ¬ (false = true) by decide)] at H; exact H
           clear H
           have H := H1
           clear H1
           have H' := Aside0.mk H
           clear H
           obtain ⟨hcz36_0, hcz36_1, hcz36_2, hcz36_3, hcz36_4⟩ := cells5 BK103
           obtain ⟨hfz36_0, hfz36_1, hfz36_2, hfz36_3, hfz36_4⟩ := frz5 BK103
           go_wp2_with (first | ((with_reducible refine gate_callee (f := 42) rfl ?_); refine goesL_ (some 40) rfl rfl Try.func42 (by kernel_rfl) rfl #[.agg #[.int .i64 a0_0, .int .i64 a0_1, .int .i64 a0_2, .int .i64 a0_3, .bool a0_4]] rfl (by (try simp only [List.map_toArray, List.map_cons, List.map_nil]); first | done | rfl | (simp only [List.length_drop, List.length_take]; rfl)) ?_; (with_reducible refine (docket_running.calls a0_0 a0_1 a0_2 a0_3 a0_4 true _ A20.out).mono ?_); rintro e w37 ⟨rfl, hb⟩; refine ⟨_, rfl, ?_⟩; replace BK103 := bB BK103 hb; replace HB := Aside0.mk (below_step (pB HB) hb); (try clear hb); obtain ⟨hcz38_0, hcz38_1, hcz38_2, hcz38_3, hcz38_4⟩ := cells5 BK103; obtain ⟨hfz38_0, hfz38_1, hfz38_2, hfz38_3, hfz38_4⟩ := frz5 BK103) | (go_at_call 42; (with_reducible refine (docket_running.calls a0_0 a0_1 a0_2 a0_3 a0_4 false _ A30.out).mono ?_); rintro e w39 ⟨rfl, hb⟩; replace BK103 := bB BK103 hb; replace HB := Aside0.mk (below_step (pB HB) hb); (try clear hb); obtain ⟨hcz40_0, hcz40_1, hcz40_2, hcz40_3, hcz40_4⟩ := cells5 BK103; obtain ⟨hfz40_0, hfz40_1, hfz40_2, hfz40_3, hfz40_4⟩ := frz5 BK103))
           go_meet
           case rel => exact ⟨_, ((a0_2 != 0)), (by first | rfl | (simp; done) | (simp [*]; done)), H', ⟨by have := HJ2.out; have := HJ9.out; first | omega | exact Nat.le_refl _⟩, ⟨by (with_reducible repeat (first | refine blk_drewN ?_ _ | refine blk_drew ?_ | refine blk_alloc ?_ _)); exact BK103.out⟩, ⟨pB HB⟩⟩
       ·replace c21 := Bool.eq_false_iff.mpr c21
        subst c21
        have H1 : ((docket_running.f a0_0 a0_1 a0_2 a0_3 a0_4).bind fun t106 => (if t106 = true then (docket_sound.j2 kj9 x5_2 false a0_0 a0_1 a0_2 a0_3 a0_4) else (docket_sound.j2 kj9 x5_2 (a0_2 != 0) a0_0 a0_1 a0_2 a0_3 a0_4))) = some r := by rw [if_neg (show ¬ (false = true) by decide)] at H; exact H
        clear H
        have H := H1
        clear H1
        replace H := Option.bind_eq_some_iff.mp H
        obtain ⟨t106, A410, H⟩ := H
        replace H : (if t106 = true then (docket_sound.j2 kj9 x5_2 false a0_0 a0_1 a0_2 a0_3 a0_4) else (docket_sound.j2 kj9 x5_2 (a0_2 != 0) a0_0 a0_1 a0_2 a0_3 a0_4)) = some r := H
        have A41 := Aside0.mk A410
        clear A410
        by_cases c42 : t106 = true
        ·subst c42
         have H1 : (docket_sound.j2 kj9 x5_2 false a0_0 a0_1 a0_2 a0_3 a0_4) = some r := by rw [if_pos rfl] at H; exact H
         clear H
         have H := H1
         clear H1
         have H' := Aside0.mk H
         clear H
         obtain ⟨hcz43_0, hcz43_1, hcz43_2, hcz43_3, hcz43_4⟩ := cells5 BK103
         obtain ⟨hfz43_0, hfz43_1, hfz43_2, hfz43_3, hfz43_4⟩ := frz5 BK103
         go_wp2_with (first | ((with_reducible refine gate_callee (f := 42) rfl ?_); refine goesL_ (some 40) rfl rfl Try.func42 (by kernel_rfl) rfl #[.agg #[.int .i64 a0_0, .int .i64 a0_1, .int .i64 a0_2, .int .i64 a0_3, .bool a0_4]] rfl (by (try simp only [List.map_toArray, List.map_cons, List.map_nil]); first | done | rfl | (simp only [List.length_drop, List.length_take]; rfl)) ?_; (with_reducible refine (docket_running.calls a0_0 a0_1 a0_2 a0_3 a0_4 false _ A20.out).mono ?_); rintro e w44 ⟨rfl, hb⟩; refine ⟨_, rfl, ?_⟩; replace BK103 := bB BK103 hb; replace HB := Aside0.mk (below_step (pB HB) hb); (try clear hb); obtain ⟨hcz45_0, hcz45_1, hcz45_2, hcz45_3, hcz45_4⟩ := cells5 BK103; obtain ⟨hfz45_0, hfz45_1, hfz45_2, hfz45_3, hfz45_4⟩ := frz5 BK103) | (go_at_call 42; (with_reducible refine (docket_running.calls a0_0 a0_1 a0_2 a0_3 a0_4 true _ A41.out).mono ?_); rintro e w46 ⟨rfl, hb⟩; replace BK103 := bB BK103 hb; replace HB := Aside0.mk (below_step (pB HB) hb); (try clear hb)))
         go_meet
         case rel => exact ⟨_, (false), (by first | rfl | (simp; done) | (simp [*]; done)), H', ⟨by have := HJ2.out; have := HJ9.out; first | omega | exact Nat.le_refl _⟩, ⟨by (with_reducible repeat (first | refine blk_drewN ?_ _ | refine blk_drew ?_ | refine blk_alloc ?_ _)); exact BK103.out⟩, ⟨pB HB⟩⟩
        ·replace c42 := Bool.eq_false_iff.mpr c42
         subst c42
         have H1 : (docket_sound.j2 kj9 x5_2 (a0_2 != 0) a0_0 a0_1 a0_2 a0_3 a0_4) = some r := by rw [if_neg (show ¬ (false = true) by decide)] at H; exact H
         clear H
         have H := H1
         clear H1
         have H' := Aside0.mk H
         clear H
         obtain ⟨hcz47_0, hcz47_1, hcz47_2, hcz47_3, hcz47_4⟩ := cells5 BK103
         obtain ⟨hfz47_0, hfz47_1, hfz47_2, hfz47_3, hfz47_4⟩ := frz5 BK103
         go_wp2_with (first | ((with_reducible refine gate_callee (f := 42) rfl ?_); refine goesL_ (some 40) rfl rfl Try.func42 (by kernel_rfl) rfl #[.agg #[.int .i64 a0_0, .int .i64 a0_1, .int .i64 a0_2, .int .i64 a0_3, .bool a0_4]] rfl (by (try simp only [List.map_toArray, List.map_cons, List.map_nil]); first | done | rfl | (simp only [List.length_drop, List.length_take]; rfl)) ?_; (with_reducible refine (docket_running.calls a0_0 a0_1 a0_2 a0_3 a0_4 false _ A20.out).mono ?_); rintro e w48 ⟨rfl, hb⟩; refine ⟨_, rfl, ?_⟩; replace BK103 := bB BK103 hb; replace HB := Aside0.mk (below_step (pB HB) hb); (try clear hb); obtain ⟨hcz49_0, hcz49_1, hcz49_2, hcz49_3, hcz49_4⟩ := cells5 BK103; obtain ⟨hfz49_0, hfz49_1, hfz49_2, hfz49_3, hfz49_4⟩ := frz5 BK103) | (go_at_call 42; (with_reducible refine (docket_running.calls a0_0 a0_1 a0_2 a0_3 a0_4 false _ A41.out).mono ?_); rintro e w50 ⟨rfl, hb⟩; replace BK103 := bB BK103 hb; replace HB := Aside0.mk (below_step (pB HB) hb); (try clear hb); obtain ⟨hcz51_0, hcz51_1, hcz51_2, hcz51_3, hcz51_4⟩ := cells5 BK103; obtain ⟨hfz51_0, hfz51_1, hfz51_2, hfz51_3, hfz51_4⟩ := frz5 BK103))
         go_meet
         case rel => exact ⟨_, ((a0_2 != 0)), (by first | rfl | (simp; done) | (simp [*]; done)), H', ⟨by have := HJ2.out; have := HJ9.out; first | omega | exact Nat.le_refl _⟩, ⟨by (with_reducible repeat (first | refine blk_drewN ?_ _ | refine blk_drew ?_ | refine blk_alloc ?_ _)); exact BK103.out⟩, ⟨pB HB⟩⟩
      case rest =>
       clear HC19
       try clear c1
       try clear c2
       try clear p2
       try clear c3
       try clear c4
       try clear c5
       try clear c5b0
       try clear c5b1
       try clear c7
       try clear c7b0
       try clear c7b1
       try clear c11
       try clear c11b0
       try clear c13
       try clear c13b0
       try clear c15
       try clear c15b0
       try clear c18
       try clear c21
       try clear c22
       try clear c22b0
       try clear c26
       try clear c26b0
       try clear c31
       try clear c39
       try clear c42
       try clear p2
       obtain ⟨kq, x38_18, rfl, HA, HJ18, BK103, HB⟩ := hcut
       cases kq with
       | zero => exact absurd HA.out (by simp [docket_sound.j2])
       | succ kj18 =>
        have H := HA.out
        clear HA
        simp only [docket_sound.j2] at H
        by_cases c52 : x38_18 = true
        ·subst c52
         have H1 : (some false) = some r := by rw [if_pos rfl] at H; exact H
         clear H
         have H := H1
         clear H1
         obtain rfl := Option.some.inj H
         go_wp2
         go_ret
         exact ⟨by first | rfl | (simp [errW_none, errW_some] <;> rfl) | (simp [*, errW_none, errW_some] <;> rfl), pB HB⟩
        ·replace c52 := Bool.eq_false_iff.mpr c52
         subst c52
         have H1 : (if x5_2 = true then (if a0_3 = 0 then (if a0_4 = true then (if a0_1 = 6 then (some (a0_3 == 0)) else (some false)) else (some true)) else (some false)) else (if a0_4 = true then (if a0_1 = 6 then (some (a0_3 == 0)) else (some false)) else (some true))) = some r := by rw [if_neg (show ¬ (false = true) by decide)] at H; exact H
         clear H
         have H := H1
         clear H1
         by_cases c53 : x5_2 = true
         ·subst c53
          have H1 : (if a0_3 = 0 then (if a0_4 = true then (if a0_1 = 6 then (some (a0_3 == 0)) else (some false)) else (some true)) else (some false)) = some r := by rw [if_pos rfl] at H; exact H
          clear H
          have H := H1
          clear H1
          by_cases c54 : a0_3 = 0
          ·rw [if_pos c54] at H
           have c54b0 : (a0_3 == 0) = true := beq_iff_eq.mpr c54
           have c54b1 : (a0_3 != 0) = false := bne_eq_false_iff_eq.mpr c54
           clear c54
           by_cases c55 : a0_4 = true
           ·subst c55
            have H1 : (if a0_1 = 6 then (some (a0_3 == 0)) else (some false)) = some r := by rw [if_pos rfl] at H; exact H
            clear H
            have H := H1
            clear H1
            by_cases c56 : a0_1 = 6
            ·rw [if_pos c56] at H
             have c56b0 : (a0_1 == 6) = true := beq_iff_eq.mpr c56
             have c56b1 : (a0_1 != 6) = false := bne_eq_false_iff_eq.mpr c56
             clear c56
             obtain rfl := Option.some.inj H
             obtain ⟨hcz57_0, hcz57_1, hcz57_2, hcz57_3, hcz57_4⟩ := cells5 BK103
             obtain ⟨hfz57_0, hfz57_1, hfz57_2, hfz57_3, hfz57_4⟩ := frz5 BK103
             go_wp2
             go_ret
             exact ⟨by first | rfl | (simp [errW_none, errW_some] <;> rfl) | (simp [*, errW_none, errW_some] <;> rfl), pB HB⟩
            ·rw [if_neg c56] at H
             have c56b0 : (a0_1 == 6) = false := beq_eq_false_iff_ne.mpr c56
             have c56b1 : (a0_1 != 6) = true := bne_iff_ne.mpr c56
             obtain rfl := Option.some.inj H
             obtain ⟨hcz58_0, hcz58_1, hcz58_2, hcz58_3, hcz58_4⟩ := cells5 BK103
             obtain ⟨hfz58_0, hfz58_1, hfz58_2, hfz58_3, hfz58_4⟩ := frz5 BK103
             go_wp2
             go_ret
             exact ⟨by first | rfl | (simp [errW_none, errW_some] <;> rfl) | (simp [*, errW_none, errW_some] <;> rfl), pB HB⟩
           ·replace c55 := Bool.eq_false_iff.mpr c55
            subst c55
            have H1 : (some true) = some r := by rw [if_neg (show ¬ (false = true) by decide)] at H; exact H
            clear H
            have H := H1
            clear H1
            obtain rfl := Option.some.inj H
            obtain ⟨hcz59_0, hcz59_1, hcz59_2, hcz59_3, hcz59_4⟩ := cells5 BK103
            obtain ⟨hfz59_0, hfz59_1, hfz59_2, hfz59_3, hfz59_4⟩ := frz5 BK103
            go_wp2
            go_ret
            exact ⟨by first | rfl | (simp [errW_none, errW_some] <;> rfl) | (simp [*, errW_none, errW_some] <;> rfl), pB HB⟩
          ·rw [if_neg c54] at H
           have c54b0 : (a0_3 == 0) = false := beq_eq_false_iff_ne.mpr c54
           have c54b1 : (a0_3 != 0) = true := bne_iff_ne.mpr c54
           obtain rfl := Option.some.inj H
           obtain ⟨hcz60_0, hcz60_1, hcz60_2, hcz60_3, hcz60_4⟩ := cells5 BK103
           obtain ⟨hfz60_0, hfz60_1, hfz60_2, hfz60_3, hfz60_4⟩ := frz5 BK103
           go_wp2
           go_ret
           exact ⟨by first | rfl | (simp [errW_none, errW_some] <;> rfl) | (simp [*, errW_none, errW_some] <;> rfl), pB HB⟩
         ·replace c53 := Bool.eq_false_iff.mpr c53
          subst c53
          have H1 : (if a0_4 = true then (if a0_1 = 6 then (some (a0_3 == 0)) else (some false)) else (some true)) = some r := by rw [if_neg (show ¬ (false = true) by decide)] at H; exact H
          clear H
          have H := H1
          clear H1
          by_cases c61 : a0_4 = true
          ·subst c61
           have H1 : (if a0_1 = 6 then (some (a0_3 == 0)) else (some false)) = some r := by rw [if_pos rfl] at H; exact H
           clear H
           have H := H1
           clear H1
           by_cases c62 : a0_1 = 6
           ·rw [if_pos c62] at H
            have c62b0 : (a0_1 == 6) = true := beq_iff_eq.mpr c62
            have c62b1 : (a0_1 != 6) = false := bne_eq_false_iff_eq.mpr c62
            clear c62
            obtain rfl := Option.some.inj H
            obtain ⟨hcz63_0, hcz63_1, hcz63_2, hcz63_3, hcz63_4⟩ := cells5 BK103
            obtain ⟨hfz63_0, hfz63_1, hfz63_2, hfz63_3, hfz63_4⟩ := frz5 BK103
            go_wp2
            go_ret
            exact ⟨by first | rfl | (simp [errW_none, errW_some] <;> rfl) | (simp [*, errW_none, errW_some] <;> rfl), pB HB⟩
           ·rw [if_neg c62] at H
            have c62b0 : (a0_1 == 6) = false := beq_eq_false_iff_ne.mpr c62
            have c62b1 : (a0_1 != 6) = true := bne_iff_ne.mpr c62
            obtain rfl := Option.some.inj H
            obtain ⟨hcz64_0, hcz64_1, hcz64_2, hcz64_3, hcz64_4⟩ := cells5 BK103
            obtain ⟨hfz64_0, hfz64_1, hfz64_2, hfz64_3, hfz64_4⟩ := frz5 BK103
            go_wp2
            go_ret
            exact ⟨by first | rfl | (simp [errW_none, errW_some] <;> rfl) | (simp [*, errW_none, errW_some] <;> rfl), pB HB⟩
          ·replace c61 := Bool.eq_false_iff.mpr c61
           subst c61
           have H1 : (some true) = some r := by rw [if_neg (show ¬ (false = true) by decide)] at H; exact H
           clear H
           have H := H1
           clear H1
           obtain rfl := Option.some.inj H
           obtain ⟨hcz65_0, hcz65_1, hcz65_2, hcz65_3, hcz65_4⟩ := cells5 BK103
           obtain ⟨hfz65_0, hfz65_1, hfz65_2, hfz65_3, hfz65_4⟩ := frz5 BK103
           go_wp2
           go_ret
           exact ⟨by first | rfl | (simp [errW_none, errW_some] <;> rfl) | (simp [*, errW_none, errW_some] <;> rfl), pB HB⟩

end Go.Proofs.Ytpfiecjacpbhkaa.D

/- docket.find comes to the first index of an ID, or -1: no condition but a length below 2^62. -/
namespace Go.Proofs.Ytpfiecjacpbhkaa.D
open Go.RowKit Go.Proofs.YtpfiecjacpbhkaaW.PrintWords Go.Proofs.YtpfiecjacpbhkaaW.PrintLast Go.Proofs.YtpfiecjacpbhkaaW.PrintMore
set_option linter.unusedVariables false

def fnd (x : Int) : List S50 → Nat → Int
  | [], _ => -1
  | y :: r, i => if y.f0 = x then (i : Int) else fnd x r (i + 1)

set_option maxHeartbeats 4000000 in
set_option maxRecDepth 100000 in
theorem find_closure (g : Nat) (y : S50) (x : Int) (W : World) (hx : W.cell? ⟨g, 0, none⟩ = some (.int .i64 x)) :
    Calls Try.prog 57 (#[.agg #[.int .i64 y.f0, .int .i64 y.f1, .int .i64 y.f2, .int .i64 y.f3, .bool y.f4]] ++ #[.pointer (some ⟨g, 0, none⟩)]) W fun e w' => e = .returned (.bool (y.f0 == x)) ∧ Below W.heap.size W w' := by
  have hu := Try.underlying50
  have hne : g ≠ W.heap.size := Nat.ne_of_lt (World.block_lt_of_cell? W _ hx)
  show Calls Try.prog 57 #[.agg #[.int .i64 y.f0, .int .i64 y.f1, .int .i64 y.f2, .int .i64 y.f3, .bool y.f4], .pointer (some ⟨g, 0, none⟩)] W _
  have hB0 : Below W.heap.size W (W.alloc (.cells #[.int .i64 y.f0, .int .i64 y.f1, .int .i64 y.f2, .int .i64 y.f3, .bool y.f4] 50 (0, 0))) := (Below.refl _ W).alloc (Nat.le_refl _) _
  have cx := pw_cell_below hB0 hx
  have cy : (W.alloc (.cells #[.int .i64 y.f0, .int .i64 y.f1, .int .i64 y.f2, .int .i64 y.f3, .bool y.f4] 50 (0, 0))).cell? ⟨W.heap.size, 0, none⟩ = some (.int .i64 y.f0) := (blk_cell (blk_new W _) 0).trans rfl
  clear hx
  go_enter Try.func57, Try.ntmps57
  go_wp2
  go_ret
  exact ⟨rfl, hB0⟩

set_option maxHeartbeats 4000000 in
set_option maxRecDepth 100000 in
theorem index_any (g : Nat) (x : Int) (A : Option Addr) (c : Nat) (l : List S50) (w : World) (hx : w.cell? ⟨g, 0, none⟩ = some (.int .i64 x)) (hr : Kd.C k50 w A l.length l) (hlen : l.length < 4611686018427387904) :
    Calls Try.prog 56 #[.slice A l.length c, .func (.func 57) #[] #[.pointer (some ⟨g, 0, none⟩)]] w fun e w' => e = .returned (.int .i64 (fnd x l 0)) ∧ Below w.heap.size w w' := by
  have hu := Try.underlying50
  have eg : ∀ args w, (callFunc 57 args).run Try.prog w = .ok (.enter 57 args) w := enters_of Try.func57 (by kernel_rfl) rfl
  have HR := Aside0.mk hr
  have HX := Aside0.mk hx
  clear hr hx
  obtain ⟨r, hr⟩ : ∃ r, fnd x l 0 = r := ⟨_, rfl⟩
  rw [hr]
  have R0 := Aside0.mk hr
  clear hr
  go_enter Try.func56, Try.ntmps56
  go_wp2
  go_loopg [8] (l.length) (fun kx s8 wr => ∃ (j : Nat), s8 = .int .i64 j ∧ j ≤ l.length ∧ l.length - j ≤ kx ∧ Aside0 (fnd x (l.drop j) j = r) ∧ Aside0 (Below w.heap.size w wr))
  case atStart => exact ⟨0, rfl, Nat.zero_le _, by omega, ⟨by simpa using R0.out⟩, ⟨Below.refl _ _⟩⟩
  case round =>
    obtain ⟨j, rfl, hj, hk, I, HB⟩ := hrel
    by_cases hlt : j < l.length
    · obtain ⟨k1, rfl⟩ : ∃ m, gk = m + 1 := ⟨gk - 1, by omega⟩
      have hd : decide ((j : Int) < (l.length : Int)) = true := decide_eq_true (by omega)
      have p0 : 0 ≤ (j : Int) := Int.natCast_nonneg j
      have q0 : (j : Int) < (l.length : Int) := by omega
      have er : rd_T50 l (j : Int) = l[j] := by
        unfold rd_T50
        rw [Int.toNat_natCast, List.getD_eq_getElem?_getD, List.getElem?_eq_getElem hlt]
        rfl
      have I2 := I.out
      rw [List.drop_eq_getElem_cons hlt, fnd] at I2
      clear I
      obtain ⟨ad, ea, h0, h1, h2, h3, h4⟩ := at_T50 HR.out (j : Int) p0 q0
      cases ea
      rw [er, Int.toNat_natCast] at h0 h1 h2 h3 h4
      replace h0 := (HB.out.cell (World.block_lt_of_cell? w _ h0)).trans h0
      replace h1 := (HB.out.cell (World.block_lt_of_cell? w _ h1)).trans h1
      replace h2 := (HB.out.cell (World.block_lt_of_cell? w _ h2)).trans h2
      replace h3 := (HB.out.cell (World.block_lt_of_cell? w _ h3)).trans h3
      replace h4 := (HB.out.cell (World.block_lt_of_cell? w _ h4)).trans h4
      have hw : wrap64 ((j : Int) + 1) = ((j + 1 : Nat) : Int) := by unfold wrap64; omega
      have hc := find_closure g l[j] x wr (pw_cell_below HB.out HX.out)
      generalize l[j] = y at *
      have p1 := eq_true p0
      have q1 := eq_true q0
      clear p0 q0
      by_cases hy : y.f0 = x
      · rw [if_pos hy] at I2
        have hb0 : (y.f0 == x) = true := by simpa using hy
        rw [hb0] at hc
        subst I2
        clear hy hb0
        go_wp2_with (go_at_fn 57; refine hc.mono ?_; rintro e w' ⟨rfl, hb⟩)
        go_ret
        exact ⟨rfl, below_then HB.out (Below.size HB.out) hb⟩
      · rw [if_neg hy] at I2
        have hb0 : (y.f0 == x) = false := by simpa using hy
        rw [hb0] at hc
        have I3 := Aside0.mk I2
        clear I2 hy hb0
        go_wp2_with (go_at_fn 57; refine hc.mono ?_; rintro e w' ⟨rfl, hb⟩)
        have HB2 := Aside0.mk (below_then HB.out (Below.size HB.out) hb)
        clear hb
        go_roundg k1
        case measure => omega
        case rel => exact ⟨j + 1, by first | (rw [hw]; done) | (simp; done) | go_num, by omega, by omega, I3, HB2⟩
    · have ej : j = l.length := by omega
      subst ej
      have I2 := I.out
      rw [List.drop_length, fnd] at I2
      subst I2
      have hd : decide ((l.length : Int) < (l.length : Int)) = false := decide_eq_false (by omega)
      go_wp2
      go_ret
      exact ⟨rfl, HB.out⟩

def docket_find.f (l0 : List S50) (a1 : Int) : Option Int := if l0.length < 4611686018427387904 then some (fnd a1 l0 0) else none
set_option maxHeartbeats 4000000 in
set_option maxRecDepth 100000 in
theorem docket_find.calls (A0 : Option Addr) (c0 : Nat) (l0 : List S50) (a1 : Int) (r : Int) (w : World) (hr0 : Kd.C k50 w A0 l0.length l0) (hc0 : l0.length ≤ c0) (h : docket_find.f l0 a1 = some r) :
    Calls Try.prog 37 #[.slice A0 l0.length c0, .int .i64 a1] w fun e w' => e = .returned (.int .i64 r) ∧ Below w.heap.size w w' := by
  unfold docket_find.f at h
  have hlen : l0.length < 4611686018427387904 := by
    by_cases hl : l0.length < 4611686018427387904
    · exact hl
    · rw [if_neg hl] at h; cases h
  rw [if_pos hlen] at h
  obtain rfl := Option.some.inj h
  clear h
  obtain ⟨W0, hW0⟩ : ∃ W0, W0 = w.alloc (.cells #[.int .i64 a1] 3 (0, 0)) := ⟨_, rfl⟩
  have hB0 : Below w.heap.size w W0 := by rw [hW0]; exact (Below.refl _ w).alloc (Nat.le_refl _) _
  have cx : W0.cell? ⟨w.heap.size, 0, none⟩ = some (.int .i64 a1) := by rw [hW0]; exact (blk_cell (blk_new w _) 0).trans rfl
  have hS := index_any w.heap.size a1 A0 c0 l0 W0 cx (Kd.C_below hr0 hB0) hlen
  clear hr0 cx
  generalize fnd a1 l0 0 = r at hS ⊢
  go_enter Try.func37, Try.ntmps37
  go_wp2_with (go_at_call 56; rw [← hW0]; refine hS.mono ?_; rintro e w' ⟨rfl, hb⟩)
  go_ret
  exact ⟨rfl, below_then hB0 (Below.size hB0) hb⟩
end Go.Proofs.Ytpfiecjacpbhkaa.D

/- What the Go functions named below come to, each told as_ a Lean function ('.f'), with the proof ('.calls'): no condition beyond those that each theorem states. Written by a program of this session's over the translation. -/
namespace Go.Proofs.Ytpfiecjacpbhkaa.D
open Go.RowKit Go.Proofs.YtpfiecjacpbhkaaW.PrintWords Go.Proofs.YtpfiecjacpbhkaaW.PrintLast Go.Proofs.YtpfiecjacpbhkaaW.PrintMore
attribute [local go_sem] max2_int min2_int max_two min_two max_three min_three max_four min_four   -- for this text's walks alone
set_option linter.unusedVariables false
set_option linter.unusedSimpArgs false

/-! ### docket_Check: function 21 -/
def docket_Check.l0 : Nat → List (S50) → Int → Int → Int → Int → Int → List Int → List (S50) → Option (Int)
 | 0, _, _, _, _, _, _, _, _ => none
 | k + 1, x19, x20, x21, x108000, x108001, x108002, x108003, x108004 => if x21 < x20 then (if 0 ≤ x21 then (if x21 < (x19.length : Int) then (if ((rd_T50 x19 x21).f0) < 0 then (some 1) else (if x21 ≤ (x108004.length : Int) then ((docket_find.f (x108004.take (x21 : Int).toNat) ((rd_T50 x19 x21).f0)).bind fun t115 => (if t115 ≥ 0 then (some 12) else ((docket_sound.f k ((rd_T50 x19 x21).f0) ((rd_T50 x19 x21).f1) ((rd_T50 x19 x21).f2) ((rd_T50 x19 x21).f3) ((rd_T50 x19 x21).f4) x108000).bind fun t116 => (if t116 = true then (docket_Check.l0 k x19 x20 (wrap64 (x21 + 1)) x108000 x108001 x108002 x108003 x108004) else (some 1))))) else (none))) else (none)) else (none)) else (some 0)
def docket_Check.f (k : Nat) (a0_0 : Int) (a0_1 : Int) (a0_2 : Int) (l0_3 : List Int) (l0_4 : List (S50)) : Option (Int) := (docket_checkTerms.f k a0_0 a0_1 a0_2 l0_3).bind fun t108 => (if t108 = 0 then (if (l0_4.length : Int) > 32 then (some 2) else (docket_Check.l0 k l0_4 (l0_4.length : Int) 0 a0_0 a0_1 a0_2 l0_3 l0_4)) else (some t108))
theorem docket_Check.mono_l : ∀ k, (∀ y0 y1 y2 y3 y4 y5 y6 y7, LeO (docket_Check.l0 k y0 y1 y2 y3 y4 y5 y6 y7) (docket_Check.l0 (k + 1) y0 y1 y2 y3 y4 y5 y6 y7))
 | 0 => fun _ _ _ _ _ _ _ _ r h => by simp [docket_Check.l0] at h
 | k + 1 => by
  have ih0 := docket_Check.mono_l k
  ·intro y0 y1 y2 y3 y4 y5 y6 y7
   unfold docket_Check.l0
   repeat' first
   | (with_reducible exact ih0 _ _ _ _ _ _ _ _)
   | (with_reducible exact docket_checkTerms.mono _ _ _ _ _)
   | (with_reducible exact docket_sound.mono _ _ _ _ _ _ _)
   | (with_reducible exact LeO.refl _)
   | (with_reducible exact LeO.none _)
   | (with_reducible refine LeO.ite ?_ ?_)
   | (with_reducible refine LeO.bind ?_ (fun _ => ?_))
   | exact ih0 _ _ _ _ _ _ _ _
   | exact docket_checkTerms.mono _ _ _ _ _
   | exact docket_sound.mono _ _ _ _ _ _ _
   | exact LeO.none _
   | refine LeO.ite ?_ ?_
   | refine LeO.bind ?_ (fun _ => ?_)
theorem docket_Check.mono : ∀ a0 a1 a2 a3 a4 k, LeO (docket_Check.f k a0 a1 a2 a3 a4) (docket_Check.f (k + 1) a0 a1 a2 a3 a4) := by
 intro a0 a1 a2 a3 a4 k
 have ih0 := docket_Check.mono_l k
 unfold docket_Check.f
 repeat' first
   | (with_reducible exact ih0 _ _ _ _ _ _ _ _)
   | (with_reducible exact docket_checkTerms.mono _ _ _ _ _)
   | (with_reducible exact docket_sound.mono _ _ _ _ _ _ _)
   | (with_reducible exact LeO.refl _)
   | (with_reducible exact LeO.none _)
   | (with_reducible refine LeO.ite ?_ ?_)
   | (with_reducible refine LeO.bind ?_ (fun _ => ?_))
   | exact ih0 _ _ _ _ _ _ _ _
   | exact docket_checkTerms.mono _ _ _ _ _
   | exact docket_sound.mono _ _ _ _ _ _ _
   | exact LeO.none _
   | refine LeO.ite ?_ ?_
   | refine LeO.bind ?_ (fun _ => ?_)
def docket_Check.T11 : Bool × List (List Nat × List Nat) := (true, [([], []), ([0], [0]), ([], []), ([1, 2], [1, 2]), ([], []), ([4], [4]), ([3, 5], [3, 5]), ([6], [6]), ([7, 6], [7])])
def docket_Check.B11 : List Nat := [0, 1, 0, 7, 0, 16, 63, 127, 255]
theorem docket_Check.tab11 : rtab .any (opsOf Try.f21 11) = docket_Check.T11 := by kernel_rfl
theorem docket_Check.bits11 : waitsOk docket_Check.T11.2 docket_Check.B11 = true := by kernel_rfl
set_option maxHeartbeats 8000000 in
set_option maxRecDepth 100000 in
theorem docket_Check.calls (k : Nat) (a0_0 : Int) (a0_1 : Int) (a0_2 : Int) (A0_3 : Option Addr) (c0_3 : Nat) (l0_3 : List Int) (A0_4 : Option Addr) (c0_4 : Nat) (l0_4 : List (S50)) (r : Int) (w : World) (hr0_3 : Kd.C (Kd.int .i64) w A0_3 l0_3.length l0_3) (hc0_3 : l0_3.length ≤ c0_3) (hr0_4 : Kd.C k50 w A0_4 l0_4.length l0_4) (hc0_4 : l0_4.length ≤ c0_4) (h : docket_Check.f k a0_0 a0_1 a0_2 l0_3 l0_4 = some r) :
  Calls Try.prog 21 #[.agg #[.int .i64 a0_0, .int .i64 a0_1, .int .i64 a0_2, .slice A0_3 l0_3.length c0_3, .slice A0_4 l0_4.length c0_4]] w fun e w' => e = .returned (.int .i64 r) ∧ Below w.heap.size w w' := by
 have hu30 := Try.underlying30
 have hu27 := Try.underlying27
 have hu50 := Try.underlying50
 have HR0_3 := Aside0.mk hr0_3
 have HC0_3 := Aside0.mk hc0_3
 clear hr0_3 hc0_3
 have HR0_4 := Aside0.mk hr0_4
 have HC0_4 := Aside0.mk hc0_4
 clear hr0_4 hc0_4
 have HB := Aside0.mk (Below.refl w.heap.size w)
 have H : ((docket_checkTerms.f k a0_0 a0_1 a0_2 l0_3).bind fun t108 => (if t108 = 0 then (if (l0_4.length : Int) > 32 then (some 2) else (docket_Check.l0 k l0_4 (l0_4.length : Int) 0 a0_0 a0_1 a0_2 l0_3 l0_4)) else (some t108))) = some r := h
 clear h
 replace H := Option.bind_eq_some_iff.mp H
 obtain ⟨t108, A20, H⟩ := H
 replace H : (if t108 = 0 then (if (l0_4.length : Int) > 32 then (some 2) else (docket_Check.l0 k l0_4 (l0_4.length : Int) 0 a0_0 a0_1 a0_2 l0_3 l0_4)) else (some t108)) = some r := H
 have A2 := Aside0.mk A20
 clear A20
 by_cases c3 : t108 = 0
 ·rw [if_pos c3] at H
  have c3b0 : (t108 == 0) = true := beq_iff_eq.mpr c3
  have c3b1 : (t108 != 0) = false := bne_eq_false_iff_eq.mpr c3
  clear c3
  by_cases c4 : (l0_4.length : Int) > 32
  ·rw [if_pos c4] at H
   have c4b0 : decide (32 < (l0_4.length : Int)) = true := decide_eq_true c4
   have c4b1 : decide (32 < l0_4.length) = true := decide_eq_true (by omega)
   clear c4
   obtain rfl := Option.some.inj H
   go_enter Try.func21, Try.ntmps21
   go_wp2_with (first | ((with_reducible refine gate_dst (N := 1) rfl ?_); refine boxE (N := 1) #[.int .i64 a0_0, .int .i64 a0_1, .int .i64 a0_2, .slice A0_3 l0_3.length c0_3, .slice A0_4 l0_4.length c0_4] 30 ?_; intro gb107 hg w5 hbox hb; have BK107 := Aside0.mk (hbox); have GW107 := gS HB hg; have GE107 := gS HB hg; replace HB := Aside0.mk (below_step (pB HB) hb); clear hb hbox hg; obtain ⟨hcz6_0, hcz6_1, hcz6_2, hcz6_3, hcz6_4⟩ := cells5 BK107; obtain ⟨hfz6_0, hfz6_1, hfz6_2, hfz6_3, hfz6_4⟩ := frz5 BK107) | ((with_reducible refine gate_callee (f := 34) rfl ?_); refine goesL_ (some 10) rfl rfl Try.func34 (by kernel_rfl) rfl #[.int .i64 a0_0, .agg #[.int .i64 a0_1, .int .i64 a0_2, .slice A0_3 l0_3.length c0_3]] rfl (by (try simp only [List.map_toArray, List.map_cons, List.map_nil]); first | done | rfl | (simp only [List.length_drop, List.length_take]; rfl)) ?_; (with_reducible refine (docket_checkTerms.calls k a0_0 a0_1 a0_2 _ _ l0_3 t108 _ ?side1 ?side2 A2.out).mono ?_); (case side1 => exact cB HR0_3 HB); (case side2 => exact HC0_3.out); rintro e w7 ⟨rfl, hb⟩; refine ⟨_, rfl, ?_⟩; replace BK107 := bB BK107 hb; replace HB := Aside0.mk (below_step (pB HB) hb); (try clear hb); obtain ⟨hcz8_0, hcz8_1, hcz8_2, hcz8_3, hcz8_4⟩ := cells5 BK107; obtain ⟨hfz8_0, hfz8_1, hfz8_2, hfz8_3, hfz8_4⟩ := frz5 BK107))
   go_ret
   exact ⟨by first | rfl | (simp [errW_none, errW_some] <;> rfl) | (simp [*, errW_none, errW_some] <;> rfl), pB HB⟩
  ·rw [if_neg c4] at H
   have c4b0 : decide (32 < (l0_4.length : Int)) = false := decide_eq_false c4
   have c4b1 : decide (32 < l0_4.length) = false := decide_eq_false (by omega)
   clear c4
   have H' := Aside0.mk H
   clear H
   go_enter Try.func21, Try.ntmps21
   go_wp2_with (first | ((with_reducible refine gate_dst (N := 1) rfl ?_); refine boxE (N := 1) #[.int .i64 a0_0, .int .i64 a0_1, .int .i64 a0_2, .slice A0_3 l0_3.length c0_3, .slice A0_4 l0_4.length c0_4] 30 ?_; intro gb107 hg w9 hbox hb; have BK107 := Aside0.mk (hbox); have GW107 := gS HB hg; have GE107 := gS HB hg; replace HB := Aside0.mk (below_step (pB HB) hb); clear hb hbox hg; obtain ⟨hcz10_0, hcz10_1, hcz10_2, hcz10_3, hcz10_4⟩ := cells5 BK107; obtain ⟨hfz10_0, hfz10_1, hfz10_2, hfz10_3, hfz10_4⟩ := frz5 BK107) | ((with_reducible refine gate_callee (f := 34) rfl ?_); refine goesL_ (some 10) rfl rfl Try.func34 (by kernel_rfl) rfl #[.int .i64 a0_0, .agg #[.int .i64 a0_1, .int .i64 a0_2, .slice A0_3 l0_3.length c0_3]] rfl (by (try simp only [List.map_toArray, List.map_cons, List.map_nil]); first | done | rfl | (simp only [List.length_drop, List.length_take]; rfl)) ?_; (with_reducible refine (docket_checkTerms.calls k a0_0 a0_1 a0_2 _ _ l0_3 t108 _ ?side1 ?side2 A2.out).mono ?_); (case side1 => exact cB HR0_3 HB); (case side2 => exact HC0_3.out); rintro e w11 ⟨rfl, hb⟩; refine ⟨_, rfl, ?_⟩; replace BK107 := bB BK107 hb; replace HB := Aside0.mk (below_step (pB HB) hb); (try clear hb); obtain ⟨hcz12_0, hcz12_1, hcz12_2, hcz12_3, hcz12_4⟩ := cells5 BK107; obtain ⟨hfz12_0, hfz12_1, hfz12_2, hfz12_3, hfz12_4⟩ := frz5 BK107))
   go_loopg [21] k (fun kq v21 w' => ∃ (x21_1 : Int), v21 = .int .i64 x21_1 ∧ Aside0 (docket_Check.l0 kq l0_4 (l0_4.length : Int) x21_1 a0_0 a0_1 a0_2 l0_3 l0_4 = some r) ∧ Aside0 (kq ≤ k) ∧ Aside0 (w'.heap[gb107]? = some (.cells #[.int .i64 a0_0, .int .i64 a0_1, .int .i64 a0_2, (.slice A0_3 l0_3.length c0_3), (.slice A0_4 l0_4.length c0_4)] 30 (0, 0))) ∧ Aside0 (Below w.heap.size w w'))
   case atStart => exact ⟨(0), (by first | rfl | (simp; done) | (simp [*]; done)), H', ⟨Nat.le_refl _⟩, ⟨by (with_reducible repeat (first | refine blk_drewN ?_ _ | refine blk_drew ?_ | refine blk_alloc ?_ _)); exact BK107.out⟩, ⟨pB HB⟩⟩
   case round =>
    clear H'
    try clear c2
    try clear p2
    try clear c3
    try clear c3b0
    try clear c3b1
    try clear c4
    try clear c4b0
    try clear c4b1
    obtain ⟨x21_1, rfl, HA, HK1, BK107, HB⟩ := hrel
    cases gk with
    | zero => exact absurd HA.out (by simp [docket_Check.l0])
    | succ k1 =>
     have H := HA.out
     clear HA
     simp only [docket_Check.l0] at H
     by_cases c13 : x21_1 < (l0_4.length : Int)
     ·rw [if_pos c13] at H
      have c13b0 : decide (x21_1 < (l0_4.length : Int)) = true := decide_eq_true c13
      clear c13
      by_cases c14 : 0 ≤ x21_1
      ·rw [if_pos c14] at H
       have c14b0 : decide (0 ≤ x21_1) = true := decide_eq_true c14
       clear c14
       by_cases c15 : x21_1 < (l0_4.length : Int)
       ·rw [if_pos c15] at H
        have c15b0 : decide (x21_1 < (l0_4.length : Int)) = true := decide_eq_true c15
        clear c15
        by_cases c16 : ((rd_T50 l0_4 x21_1).f0) < 0
        ·rw [if_pos c16] at H
         have c16b0 : decide (((rd_T50 l0_4 x21_1).f0) < 0) = true := decide_eq_true c16
         clear c16
         obtain rfl := Option.some.inj H
         have p109 : 0 ≤ (x21_1 : Int) := of_decide_eq_true (by first | (with_reducible assumption) | assumption)
         have q109 : x21_1 < (l0_4.length : Int) := of_decide_eq_true (by first | (with_reducible assumption) | assumption)
         obtain ⟨ad109, e109, hx109_0, hx109_1, hx109_2, hx109_3, hx109_4⟩ := at_T50 HR0_4.out x21_1 p109 q109
         cases e109
         replace hx109_0 := (HB.out.cell (World.block_lt_of_cell? w _ hx109_0)).trans hx109_0
         replace hx109_1 := (HB.out.cell (World.block_lt_of_cell? w _ hx109_1)).trans hx109_1
         replace hx109_2 := (HB.out.cell (World.block_lt_of_cell? w _ hx109_2)).trans hx109_2
         replace hx109_3 := (HB.out.cell (World.block_lt_of_cell? w _ hx109_3)).trans hx109_3
         replace hx109_4 := (HB.out.cell (World.block_lt_of_cell? w _ hx109_4)).trans hx109_4
         replace p109 := eq_true p109
         replace q109 := eq_true q109
         go_wp2_with (first | ((with_reducible refine gate_dst (N := 5) rfl ?_); refine boxE (N := 5) #[.int .i64 0, .int .i64 0, .int .i64 0, .int .i64 0, .bool false] 50 ?_; intro gb110 hg w17 hbox hb; have BK110 := Aside0.mk (hbox); have GW110 := gS HB hg; have GE110 := gS HB hg; have NB107_110 := nL BK107 hg; have NB110_107 := nG BK107 hg; replace BK107 := bB BK107 hb; replace HB := Aside0.mk (below_step (pB HB) hb); clear hb hbox hg; have hnb18 := NB110_107.out; have hnc18 := NB107_110.out; obtain ⟨hcz19_0, hcz19_1, hcz19_2, hcz19_3, hcz19_4⟩ := cells5 BK110; obtain ⟨hfz19_0, hfz19_1, hfz19_2, hfz19_3, hfz19_4⟩ := frz5 BK110))
         go_ret
         exact ⟨by first | rfl | (simp [errW_none, errW_some] <;> rfl) | (simp [*, errW_none, errW_some] <;> rfl), pB HB⟩
        ·rw [if_neg c16] at H
         have c16b0 : decide (((rd_T50 l0_4 x21_1).f0) < 0) = false := decide_eq_false c16
         clear c16
         have c20b0 := eq_true (of_decide_eq_true (by first | (with_reducible assumption) | assumption) : 0 ≤ x21_1)
         by_cases c21 : x21_1 ≤ (l0_4.length : Int)
         ·rw [if_pos c21] at H
          have c21b0 := eq_true c21
          have c21b1 : decide (x21_1 ≤ (l0_4.length : Int)) = true := decide_eq_true c21
          clear c21
          obtain ⟨y111, hy111⟩ : ∃ y_ : List (S50), y_ = (l0_4.take (x21_1 : Int).toNat) := ⟨_, rfl⟩
          replace H : ((docket_find.f y111 ((rd_T50 l0_4 x21_1).f0)).bind fun t115 => (if t115 ≥ 0 then (some 12) else ((docket_sound.f k1 ((rd_T50 l0_4 x21_1).f0) ((rd_T50 l0_4 x21_1).f1) ((rd_T50 l0_4 x21_1).f2) ((rd_T50 l0_4 x21_1).f3) ((rd_T50 l0_4 x21_1).f4) a0_0).bind fun t116 => (if t116 = true then (docket_Check.l0 k1 l0_4 (l0_4.length : Int) (wrap64 (x21_1 + 1)) a0_0 a0_1 a0_2 l0_3 l0_4) else (some 1))))) = some r := by first | (rw [hy111]; with_reducible exact H) | (have H2_ := (Option.bind_some _ _).symm.trans H; rw [hy111]; with_reducible exact H2_) | (have H2_ := (Option.bind_some _ _).symm.trans H; with_reducible exact H2_) | with_reducible exact H | (rw [hy111]; exact H) | exact H
          have Ny111 := Aside0.mk hy111
          clear hy111
          replace H := Option.bind_eq_some_iff.mp H
          obtain ⟨t115, A220, H⟩ := H
          replace H : (if t115 ≥ 0 then (some 12) else ((docket_sound.f k1 ((rd_T50 l0_4 x21_1).f0) ((rd_T50 l0_4 x21_1).f1) ((rd_T50 l0_4 x21_1).f2) ((rd_T50 l0_4 x21_1).f3) ((rd_T50 l0_4 x21_1).f4) a0_0).bind fun t116 => (if t116 = true then (docket_Check.l0 k1 l0_4 (l0_4.length : Int) (wrap64 (x21_1 + 1)) a0_0 a0_1 a0_2 l0_3 l0_4) else (some 1)))) = some r := H
          have A22 := Aside0.mk A220
          clear A220
          by_cases c23 : t115 ≥ 0
          ·rw [if_pos c23] at H
           have c23b0 : decide (0 ≤ t115) = true := decide_eq_true c23
           clear c23
           obtain rfl := Option.some.inj H
           have p109 : 0 ≤ (x21_1 : Int) := of_decide_eq_true (by first | (with_reducible assumption) | assumption)
           have q109 : x21_1 < (l0_4.length : Int) := of_decide_eq_true (by first | (with_reducible assumption) | assumption)
           obtain ⟨ad109, e109, hx109_0, hx109_1, hx109_2, hx109_3, hx109_4⟩ := at_T50 HR0_4.out x21_1 p109 q109
           cases e109
           replace hx109_0 := (HB.out.cell (World.block_lt_of_cell? w _ hx109_0)).trans hx109_0
           replace hx109_1 := (HB.out.cell (World.block_lt_of_cell? w _ hx109_1)).trans hx109_1
           replace hx109_2 := (HB.out.cell (World.block_lt_of_cell? w _ hx109_2)).trans hx109_2
           replace hx109_3 := (HB.out.cell (World.block_lt_of_cell? w _ hx109_3)).trans hx109_3
           replace hx109_4 := (HB.out.cell (World.block_lt_of_cell? w _ hx109_4)).trans hx109_4
           replace p109 := eq_true p109
           replace q109 := eq_true q109
           try go_wp2_with (first | ((with_reducible refine gate_dst (N := 5) rfl ?_); refine boxE (N := 5) #[.int .i64 0, .int .i64 0, .int .i64 0, .int .i64 0, .bool false] 50 ?_; intro gb110 hg w24 hbox hb; have BK110 := Aside0.mk (hbox); have GW110 := gS HB hg; have GE110 := gS HB hg; have NB107_110 := nL BK107 hg; have NB110_107 := nG BK107 hg; replace BK107 := bB BK107 hb; replace HB := Aside0.mk (below_step (pB HB) hb); clear hb hbox hg; have hnb25 := NB110_107.out; have hnc25 := NB107_110.out; obtain ⟨hcz26_0, hcz26_1, hcz26_2, hcz26_3, hcz26_4⟩ := cells5 BK110; obtain ⟨hfz26_0, hfz26_1, hfz26_2, hfz26_3, hfz26_4⟩ := frz5 BK110))
           have n0_ : Aside0 ((((((w24.setCell ⟨gb110, 0, none⟩ (.int .i64 ((rd_T50 l0_4 x21_1).f0))).setCell ⟨gb110, 1, none⟩ (.int .i64 ((rd_T50 l0_4 x21_1).f1))).setCell ⟨gb110, 2, none⟩ (.int .i64 ((rd_T50 l0_4 x21_1).f2))).setCell ⟨gb110, 3, none⟩ (.int .i64 ((rd_T50 l0_4 x21_1).f3))).setCell ⟨gb110, 4, none⟩ (.bool ((rd_T50 l0_4 x21_1).f4))).heap[gb107]? = some (.cells #[.int .i64 a0_0, .int .i64 a0_1, .int .i64 a0_2, .slice A0_3 l0_3.length c0_3, .slice (some ad109) l0_4.length c0_4] 30 (0, 0))) := ⟨by (with_reducible repeat (first | refine blk_drewN ?_ _ | refine blk_drew ?_ | refine blk_alloc ?_ _)); refine blk_far ?_ NB107_110.out _; (with_reducible repeat (first | refine blk_drewN ?_ _ | refine blk_drew ?_ | refine blk_alloc ?_ _)); refine blk_far ?_ NB107_110.out _; (with_reducible repeat (first | refine blk_drewN ?_ _ | refine blk_drew ?_ | refine blk_alloc ?_ _)); refine blk_far ?_ NB107_110.out _; (with_reducible repeat (first | refine blk_drewN ?_ _ | refine blk_drew ?_ | refine blk_alloc ?_ _)); refine blk_far ?_ NB107_110.out _; (with_reducible repeat (first | refine blk_drewN ?_ _ | refine blk_drew ?_ | refine blk_alloc ?_ _)); refine blk_far ?_ NB107_110.out _; (with_reducible repeat (first | refine blk_drewN ?_ _ | refine blk_drew ?_ | refine blk_alloc ?_ _)); exact BK107.out⟩
           have n1_ : Aside0 ((((((w24.setCell ⟨gb110, 0, none⟩ (.int .i64 ((rd_T50 l0_4 x21_1).f0))).setCell ⟨gb110, 1, none⟩ (.int .i64 ((rd_T50 l0_4 x21_1).f1))).setCell ⟨gb110, 2, none⟩ (.int .i64 ((rd_T50 l0_4 x21_1).f2))).setCell ⟨gb110, 3, none⟩ (.int .i64 ((rd_T50 l0_4 x21_1).f3))).setCell ⟨gb110, 4, none⟩ (.bool ((rd_T50 l0_4 x21_1).f4))).heap[gb110]? = some (.cells #[.int .i64 ((rd_T50 l0_4 x21_1).f0), .int .i64 ((rd_T50 l0_4 x21_1).f1), .int .i64 ((rd_T50 l0_4 x21_1).f2), .int .i64 ((rd_T50 l0_4 x21_1).f3), .bool ((rd_T50 l0_4 x21_1).f4)] 50 (0, 0))) := ⟨by (with_reducible repeat (first | refine blk_drewN ?_ _ | refine blk_drew ?_ | refine blk_alloc ?_ _)); refine blk_put (cs := #[.int .i64 ((rd_T50 l0_4 x21_1).f0), .int .i64 ((rd_T50 l0_4 x21_1).f1), .int .i64 ((rd_T50 l0_4 x21_1).f2), .int .i64 ((rd_T50 l0_4 x21_1).f3), .bool false]) ?_ 4 _ rfl; (with_reducible repeat (first | refine blk_drewN ?_ _ | refine blk_drew ?_ | refine blk_alloc ?_ _)); refine blk_put (cs := #[.int .i64 ((rd_T50 l0_4 x21_1).f0), .int .i64 ((rd_T50 l0_4 x21_1).f1), .int .i64 ((rd_T50 l0_4 x21_1).f2), .int .i64 0, .bool false]) ?_ 3 _ rfl; (with_reducible repeat (first | refine blk_drewN ?_ _ | refine blk_drew ?_ | refine blk_alloc ?_ _)); refine blk_put (cs := #[.int .i64 ((rd_T50 l0_4 x21_1).f0), .int .i64 ((rd_T50 l0_4 x21_1).f1), .int .i64 0, .int .i64 0, .bool false]) ?_ 2 _ rfl; (with_reducible repeat (first | refine blk_drewN ?_ _ | refine blk_drew ?_ | refine blk_alloc ?_ _)); refine blk_put (cs := #[.int .i64 ((rd_T50 l0_4 x21_1).f0), .int .i64 0, .int .i64 0, .int .i64 0, .bool false]) ?_ 1 _ rfl; (with_reducible repeat (first | refine blk_drewN ?_ _ | refine blk_drew ?_ | refine blk_alloc ?_ _)); refine blk_put (cs := #[.int .i64 0, .int .i64 0, .int .i64 0, .int .i64 0, .bool false]) ?_ 0 _ rfl; (with_reducible repeat (first | refine blk_drewN ?_ _ | refine blk_drew ?_ | refine blk_alloc ?_ _)); exact BK110.out⟩
           have n2_ : Aside0 (Below w.heap.size w (((((w24.setCell ⟨gb110, 0, none⟩ (.int .i64 ((rd_T50 l0_4 x21_1).f0))).setCell ⟨gb110, 1, none⟩ (.int .i64 ((rd_T50 l0_4 x21_1).f1))).setCell ⟨gb110, 2, none⟩ (.int .i64 ((rd_T50 l0_4 x21_1).f2))).setCell ⟨gb110, 3, none⟩ (.int .i64 ((rd_T50 l0_4 x21_1).f3))).setCell ⟨gb110, 4, none⟩ (.bool ((rd_T50 l0_4 x21_1).f4)))) := ⟨pB HB⟩
           (try clear BK107)
           (try clear BK110)
           (try clear HB)
           generalize (((((w24.setCell ⟨gb110, 0, none⟩ (.int .i64 ((rd_T50 l0_4 x21_1).f0))).setCell ⟨gb110, 1, none⟩ (.int .i64 ((rd_T50 l0_4 x21_1).f1))).setCell ⟨gb110, 2, none⟩ (.int .i64 ((rd_T50 l0_4 x21_1).f2))).setCell ⟨gb110, 3, none⟩ (.int .i64 ((rd_T50 l0_4 x21_1).f3))).setCell ⟨gb110, 4, none⟩ (.bool ((rd_T50 l0_4 x21_1).f4))) = w27 at n0_ n1_ n2_ ⊢
           have BK107 := n0_
           have BK110 := n1_
           have HB := n2_
           clear n0_ n1_ n2_
           replace BK107 := Aside0.mk (blk_drew BK107.out)
           replace BK110 := Aside0.mk (blk_drew BK110.out)
           replace HB := Aside0.mk (below_drew1 HB.out)
           have q29 : (x21_1 : Int) ≤ ((l0_4.length : Int) : Int) := of_decide_eq_true (by first | (with_reducible assumption) | assumption)
           obtain ⟨i029, hi029, _, hsz29, _⟩ := info_parts info50
           have hroom29 : l0_4.length ≤ c0_4 := HC0_4.out
           have hC29 : Kd.C k50 _ (some ad109) l0_4.length l0_4 := HR0_4.out
           have hcut29 := cut_to (P := Try.prog) 28 50 .i64 Try.underlying28 hi029 (some ad109) l0_4.length c0_4 x21_1 (of_decide_eq_true (by first | (with_reducible assumption) | assumption)) q29 hroom29
           have hr29 := Kd.C_take (m := (x21_1 : Int).toNat) hC29 (by omega)
           have hy29 : y111.length = (x21_1 : Int).toNat := (by rw [Ny111.out, List.length_take]; omega)
           rw [← Ny111.out] at hr29
           rw [← hy29] at hcut29
           have HR114 := Aside0.mk hr29
           have HC114 := Aside0.mk (show y111.length ≤ c0_4 from by omega)
           clear hr29 hC29 hroom29 hi029 hsz29
           have KY29 := Aside0.mk hy29
           clear hy29
           replace q29 := eq_true q29
           refine start_ (n := 9) (S := fun w' => w'.cell? ⟨gb107, 0, none⟩ = some (.int .i64 a0_0) ∧ w'.cell? ⟨gb107, 1, none⟩ = some (.int .i64 a0_1) ∧ w'.cell? ⟨gb107, 2, none⟩ = some (.int .i64 a0_2) ∧ w'.cell? ⟨gb107, 3, none⟩ = some (.slice A0_3 l0_3.length c0_3) ∧ w'.cell? ⟨gb107, 4, none⟩ = some (.slice (some ad109) l0_4.length c0_4) ∧ w'.cell? ⟨gb110, 0, none⟩ = some (.int .i64 ((rd_T50 l0_4 x21_1).f0)) ∧ w'.cell? ⟨gb110, 1, none⟩ = some (.int .i64 ((rd_T50 l0_4 x21_1).f1)) ∧ w'.cell? ⟨gb110, 2, none⟩ = some (.int .i64 ((rd_T50 l0_4 x21_1).f2)) ∧ w'.cell? ⟨gb110, 3, none⟩ = some (.int .i64 ((rd_T50 l0_4 x21_1).f3)) ∧ w'.cell? ⟨gb110, 4, none⟩ = some (.bool ((rd_T50 l0_4 x21_1).f4))) (ds := []) #[false, false, false, false, false, false, false, false, false] (by kernel_rfl) rfl rfl ⟨(blk_cell BK107.out 0).trans rfl, (blk_cell BK107.out 1).trans rfl, (blk_cell BK107.out 2).trans rfl, (blk_cell BK107.out 3).trans rfl, (blk_cell BK107.out 4).trans rfl, (blk_cell BK110.out 0).trans rfl, (blk_cell BK110.out 1).trans rfl, (blk_cell BK110.out 2).trans rfl, (blk_cell BK110.out 3).trans rfl, (blk_cell BK110.out 4).trans rfl⟩ (fun hHeld => ?_); refine with_tabW docket_Check.tab11 docket_Check.bits11 (fun HT_ HW_ => ?_)
           generalize w27.drew = w28 at BK107 BK110 HB HR114 hHeld ⊢
           refine pure_ (i := 0) (N := some 31) (v := ?_) (a' := ?_) #[true, false, false, false, false, false, false, false, false] rfl rfl (any_of HT_.out (by kernel_rfl)) (fun _ _ _ h => h) (Or.inl ⟨by rfl, ?_⟩) ?_ ?_
           rotate_left
           ·intro w'
            go_simp
            with_reducible rfl
           rotate_left
           ·simp only [Act.put, List.setIfInBounds_toArray, List.set_cons_zero, List.set_cons_succ, i64_w, i32_w]
            rfl
           refine pure_ (i := 2) (N := some 33) (v := ?_) (a' := ?_) #[true, false, true, false, false, false, false, false, false] rfl rfl (any_of HT_.out (by kernel_rfl)) (fun _ _ _ h => h) (Or.inl ⟨by rfl, ?_⟩) ?_ ?_
           rotate_left
           ·intro w'
            go_simp
            with_reducible rfl
           rotate_left
           ·simp only [Act.put, List.setIfInBounds_toArray, List.set_cons_zero, List.set_cons_succ, i64_w, i32_w]
            rfl
           refine pure_ (i := 4) (N := some 35) (v := ?_) (a' := ?_) #[true, false, true, false, true, false, false, false, false] rfl rfl (any_of HT_.out (by kernel_rfl)) (fun _ _ _ h => h) (Or.inl ⟨by rfl, ?_⟩) ?_ ?_
           rotate_left
           ·intro w'
            go_simp
            with_reducible rfl
           rotate_left
           ·simp only [Act.put, List.setIfInBounds_toArray, List.set_cons_zero, List.set_cons_succ, i64_w, i32_w]
            rfl
           refine take_ (i := 1) (N := some 32) (v := ?_) (a' := ?_) #[true, true, true, false, true, false, false, false, false] rfl rfl (take_ofW HT_.out HW_.out (by kernel_rfl)) (fun _ _ _ h => h) (Or.inl ⟨by rfl, ?_⟩) hHeld ?_ ?_
           rotate_left
           ·rintro w' ⟨s0, s1, s2, s3, s4, s5, s6, s7, s8, s9⟩
            go_simp
            with_reducible rfl
           rotate_left
           ·simp only [Act.put, List.setIfInBounds_toArray, List.set_cons_zero, List.set_cons_succ, i64_w, i32_w]
            rfl
           refine pure_ (i := 3) (N := some 34) (v := ?_) (a' := ?_) #[true, true, true, true, true, false, false, false, false] rfl rfl (any_of HT_.out (by kernel_rfl)) (fun _ _ _ h => h) (Or.inl ⟨by rfl, ?_⟩) ?_ ?_
           rotate_left
           ·intro w'
            go_simp
            with_reducible rfl
           rotate_left
           ·simp only [Act.put, List.setIfInBounds_toArray, List.set_cons_zero, List.set_cons_succ, i64_w, i32_w]
            rfl
           refine take_ (i := 5) (N := some 36) (v := ?_) (a' := ?_) #[true, true, true, true, true, true, false, false, false] rfl rfl (take_ofW HT_.out HW_.out (by kernel_rfl)) (fun _ _ _ h => h) (Or.inl ⟨by rfl, ?_⟩) hHeld ?_ ?_
           rotate_left
           ·rintro w' ⟨s0, s1, s2, s3, s4, s5, s6, s7, s8, s9⟩
            go_simp
            with_reducible rfl
           rotate_left
           ·simp only [Act.put, List.setIfInBounds_toArray, List.set_cons_zero, List.set_cons_succ, i64_w, i32_w]
            rfl
           refine one_ (i := 6) (N := some 37) #[true, true, true, true, true, true, true, false, false] rfl rfl (one_of HT_.out (by kernel_rfl)) (by decide) (fun K hK => ?_)
           refine goes_ Try.func37 (by kernel_rfl) rfl #[.slice (some ad109) y111.length c0_4, .int .i64 ((rd_T50 l0_4 x21_1).f0)] (by rfl) rfl rfl (by (try simp only [List.map_toArray, List.map_cons, List.map_nil]); first | done | rfl | (simp only [List.length_drop, List.length_take]; rfl)) ?_
           with_reducible refine (docket_find.calls _ _ y111 ((rd_T50 l0_4 x21_1).f0) t115 _ ?side1 ?side2 A22.out).mono ?_
           (case side1 => exact cB HR114 HB)
           (case side2 => exact HC114.out)
           rintro e w30 ⟨rfl, hb⟩
           refine ⟨_, rfl, ?_⟩
           replace BK107 := bB BK107 hb
           replace BK110 := bB BK110 hb
           replace HB := Aside0.mk (below_step (pB HB) hb)
           (try clear hb)
           (try clear hb2)
           (try clear hk)
           (try clear hi)
           refine hK.out _ _ ⟨(blk_cell BK107.out 0).trans rfl, (blk_cell BK107.out 1).trans rfl, (blk_cell BK107.out 2).trans rfl, (blk_cell BK107.out 3).trans rfl, (blk_cell BK107.out 4).trans rfl, (blk_cell BK110.out 0).trans rfl, (blk_cell BK110.out 1).trans rfl, (blk_cell BK110.out 2).trans rfl, (blk_cell BK110.out 3).trans rfl, (blk_cell BK110.out 4).trans rfl⟩ (fun hHeld => ?_)
           clear hK K
           refine norm_ (a' := ?_) ?_ ?_
           rotate_left
           ·show Act.put _ (some 37) _ = _
            simp only [Act.put, List.setIfInBounds_toArray, List.set_cons_zero, List.set_cons_succ, i64_w, i32_w]
            rfl
           refine pure_ (i := 7) (N := some 38) (v := ?_) (a' := ?_) #[true, true, true, true, true, true, true, true, false] rfl rfl (any_of HT_.out (by kernel_rfl)) (fun _ _ _ h => h) (Or.inl ⟨by rfl, ?_⟩) ?_ ?_
           rotate_left
           ·intro w'
            go_simp
            with_reducible rfl
           rotate_left
           ·simp only [Act.put, List.setIfInBounds_toArray, List.set_cons_zero, List.set_cons_succ, i64_w, i32_w]
            rfl
           refine pure_ (i := 8) (N := some 30) (v := ?_) (a' := ?_) #[true, true, true, true, true, true, true, true, true] rfl rfl (any_of HT_.out (by kernel_rfl)) (fun _ _ _ h => h) (Or.inl ⟨by rfl, ?_⟩) ?_ ?_
           rotate_left
           ·intro w'
            go_simp
            with_reducible rfl
           rotate_left
           ·simp only [Act.put, List.setIfInBounds_toArray, List.set_cons_zero, List.set_cons_succ, i64_w, i32_w]
            rfl
           refine done_ (done_of HT_.out (by kernel_rfl)) ?_
           try go_wp2
           go_ret
           exact ⟨by first | rfl | (simp [errW_none, errW_some] <;> rfl) | (simp [*, errW_none, errW_some] <;> rfl), pB HB⟩
          ·rw [if_neg c23] at H
           have c23b0 : decide (0 ≤ t115) = false := decide_eq_false c23
           clear c23
           replace H := Option.bind_eq_some_iff.mp H
           obtain ⟨t116, A310, H⟩ := H
           replace H : (if t116 = true then (docket_Check.l0 k1 l0_4 (l0_4.length : Int) (wrap64 (x21_1 + 1)) a0_0 a0_1 a0_2 l0_3 l0_4) else (some 1)) = some r := H
           have A31 := Aside0.mk A310
           clear A310
           by_cases c32 : t116 = true
           ·subst c32
            have H1 : (docket_Check.l0 k1 l0_4 (l0_4.length : Int) (wrap64 (x21_1 + 1)) a0_0 a0_1 a0_2 l0_3 l0_4) = some r := by rw [if_pos rfl] at H; exact H
            clear H
            have H := H1
            clear H1
            have H' := Aside0.mk H
            clear H
            have p109 : 0 ≤ (x21_1 : Int) := of_decide_eq_true (by first | (with_reducible assumption) | assumption)
            have q109 : x21_1 < (l0_4.length : Int) := of_decide_eq_true (by first | (with_reducible assumption) | assumption)
            obtain ⟨ad109, e109, hx109_0, hx109_1, hx109_2, hx109_3, hx109_4⟩ := at_T50 HR0_4.out x21_1 p109 q109
            cases e109
            replace hx109_0 := (HB.out.cell (World.block_lt_of_cell? w _ hx109_0)).trans hx109_0
            replace hx109_1 := (HB.out.cell (World.block_lt_of_cell? w _ hx109_1)).trans hx109_1
            replace hx109_2 := (HB.out.cell (World.block_lt_of_cell? w _ hx109_2)).trans hx109_2
            replace hx109_3 := (HB.out.cell (World.block_lt_of_cell? w _ hx109_3)).trans hx109_3
            replace hx109_4 := (HB.out.cell (World.block_lt_of_cell? w _ hx109_4)).trans hx109_4
            replace p109 := eq_true p109
            replace q109 := eq_true q109
            try go_wp2_with (first | ((with_reducible refine gate_dst (N := 5) rfl ?_); refine boxE (N := 5) #[.int .i64 0, .int .i64 0, .int .i64 0, .int .i64 0, .bool false] 50 ?_; intro gb110 hg w33 hbox hb; have BK110 := Aside0.mk (hbox); have GW110 := gS HB hg; have GE110 := gS HB hg; have NB107_110 := nL BK107 hg; have NB110_107 := nG BK107 hg; replace BK107 := bB BK107 hb; replace HB := Aside0.mk (below_step (pB HB) hb); clear hb hbox hg; have hnb34 := NB110_107.out; have hnc34 := NB107_110.out; obtain ⟨hcz35_0, hcz35_1, hcz35_2, hcz35_3, hcz35_4⟩ := cells5 BK110; obtain ⟨hfz35_0, hfz35_1, hfz35_2, hfz35_3, hfz35_4⟩ := frz5 BK110))
            have n0_ : Aside0 ((((((w33.setCell ⟨gb110, 0, none⟩ (.int .i64 ((rd_T50 l0_4 x21_1).f0))).setCell ⟨gb110, 1, none⟩ (.int .i64 ((rd_T50 l0_4 x21_1).f1))).setCell ⟨gb110, 2, none⟩ (.int .i64 ((rd_T50 l0_4 x21_1).f2))).setCell ⟨gb110, 3, none⟩ (.int .i64 ((rd_T50 l0_4 x21_1).f3))).setCell ⟨gb110, 4, none⟩ (.bool ((rd_T50 l0_4 x21_1).f4))).heap[gb107]? = some (.cells #[.int .i64 a0_0, .int .i64 a0_1, .int .i64 a0_2, .slice A0_3 l0_3.length c0_3, .slice (some ad109) l0_4.length c0_4] 30 (0, 0))) := ⟨by (with_reducible repeat (first | refine blk_drewN ?_ _ | refine blk_drew ?_ | refine blk_alloc ?_ _)); refine blk_far ?_ NB107_110.out _; (with_reducible repeat (first | refine blk_drewN ?_ _ | refine blk_drew ?_ | refine blk_alloc ?_ _)); refine blk_far ?_ NB107_110.out _; (with_reducible repeat (first | refine blk_drewN ?_ _ | refine blk_drew ?_ | refine blk_alloc ?_ _)); refine blk_far ?_ NB107_110.out _; (with_reducible repeat (first | refine blk_drewN ?_ _ | refine blk_drew ?_ | refine blk_alloc ?_ _)); refine blk_far ?_ NB107_110.out _; (with_reducible repeat (first | refine blk_drewN ?_ _ | refine blk_drew ?_ | refine blk_alloc ?_ _)); refine blk_far ?_ NB107_110.out _; (with_reducible repeat (first | refine blk_drewN ?_ _ | refine blk_drew ?_ | refine blk_alloc ?_ _)); exact BK107.out⟩
            have n1_ : Aside0 ((((((w33.setCell ⟨gb110, 0, none⟩ (.int .i64 ((rd_T50 l0_4 x21_1).f0))).setCell ⟨gb110, 1, none⟩ (.int .i64 ((rd_T50 l0_4 x21_1).f1))).setCell ⟨gb110, 2, none⟩ (.int .i64 ((rd_T50 l0_4 x21_1).f2))).setCell ⟨gb110, 3, none⟩ (.int .i64 ((rd_T50 l0_4 x21_1).f3))).setCell ⟨gb110, 4, none⟩ (.bool ((rd_T50 l0_4 x21_1).f4))).heap[gb110]? = some (.cells #[.int .i64 ((rd_T50 l0_4 x21_1).f0), .int .i64 ((rd_T50 l0_4 x21_1).f1), .int .i64 ((rd_T50 l0_4 x21_1).f2), .int .i64 ((rd_T50 l0_4 x21_1).f3), .bool ((rd_T50 l0_4 x21_1).f4)] 50 (0, 0))) := ⟨by (with_reducible repeat (first | refine blk_drewN ?_ _ | refine blk_drew ?_ | refine blk_alloc ?_ _)); refine blk_put (cs := #[.int .i64 ((rd_T50 l0_4 x21_1).f0), .int .i64 ((rd_T50 l0_4 x21_1).f1), .int .i64 ((rd_T50 l0_4 x21_1).f2), .int .i64 ((rd_T50 l0_4 x21_1).f3), .bool false]) ?_ 4 _ rfl; (with_reducible repeat (first | refine blk_drewN ?_ _ | refine blk_drew ?_ | refine blk_alloc ?_ _)); refine blk_put (cs := #[.int .i64 ((rd_T50 l0_4 x21_1).f0), .int .i64 ((rd_T50 l0_4 x21_1).f1), .int .i64 ((rd_T50 l0_4 x21_1).f2), .int .i64 0, .bool false]) ?_ 3 _ rfl; (with_reducible repeat (first | refine blk_drewN ?_ _ | refine blk_drew ?_ | refine blk_alloc ?_ _)); refine blk_put (cs := #[.int .i64 ((rd_T50 l0_4 x21_1).f0), .int .i64 ((rd_T50 l0_4 x21_1).f1), .int .i64 0, .int .i64 0, .bool false]) ?_ 2 _ rfl; (with_reducible repeat (first | refine blk_drewN ?_ _ | refine blk_drew ?_ | refine blk_alloc ?_ _)); refine blk_put (cs := #[.int .i64 ((rd_T50 l0_4 x21_1).f0), .int .i64 0, .int .i64 0, .int .i64 0, .bool false]) ?_ 1 _ rfl; (with_reducible repeat (first | refine blk_drewN ?_ _ | refine blk_drew ?_ | refine blk_alloc ?_ _)); refine blk_put (cs := #[.int .i64 0, .int .i64 0, .int .i64 0, .int .i64 0, .bool false]) ?_ 0 _ rfl; (with_reducible repeat (first | refine blk_drewN ?_ _ | refine blk_drew ?_ | refine blk_alloc ?_ _)); exact BK110.out⟩
            have n2_ : Aside0 (Below w.heap.size w (((((w33.setCell ⟨gb110, 0, none⟩ (.int .i64 ((rd_T50 l0_4 x21_1).f0))).setCell ⟨gb110, 1, none⟩ (.int .i64 ((rd_T50 l0_4 x21_1).f1))).setCell ⟨gb110, 2, none⟩ (.int .i64 ((rd_T50 l0_4 x21_1).f2))).setCell ⟨gb110, 3, none⟩ (.int .i64 ((rd_T50 l0_4 x21_1).f3))).setCell ⟨gb110, 4, none⟩ (.bool ((rd_T50 l0_4 x21_1).f4)))) := ⟨pB HB⟩
            (try clear BK107)
            (try clear BK110)
            (try clear HB)
            generalize (((((w33.setCell ⟨gb110, 0, none⟩ (.int .i64 ((rd_T50 l0_4 x21_1).f0))).setCell ⟨gb110, 1, none⟩ (.int .i64 ((rd_T50 l0_4 x21_1).f1))).setCell ⟨gb110, 2, none⟩ (.int .i64 ((rd_T50 l0_4 x21_1).f2))).setCell ⟨gb110, 3, none⟩ (.int .i64 ((rd_T50 l0_4 x21_1).f3))).setCell ⟨gb110, 4, none⟩ (.bool ((rd_T50 l0_4 x21_1).f4))) = w36 at n0_ n1_ n2_ ⊢
            have BK107 := n0_
            have BK110 := n1_
            have HB := n2_
            clear n0_ n1_ n2_
            replace BK107 := Aside0.mk (blk_drew BK107.out)
            replace BK110 := Aside0.mk (blk_drew BK110.out)
            replace HB := Aside0.mk (below_drew1 HB.out)
            have q38 : (x21_1 : Int) ≤ ((l0_4.length : Int) : Int) := of_decide_eq_true (by first | (with_reducible assumption) | assumption)
            obtain ⟨i038, hi038, _, hsz38, _⟩ := info_parts info50
            have hroom38 : l0_4.length ≤ c0_4 := HC0_4.out
            have hC38 : Kd.C k50 _ (some ad109) l0_4.length l0_4 := HR0_4.out
            have hcut38 := cut_to (P := Try.prog) 28 50 .i64 Try.underlying28 hi038 (some ad109) l0_4.length c0_4 x21_1 (of_decide_eq_true (by first | (with_reducible assumption) | assumption)) q38 hroom38
            have hr38 := Kd.C_take (m := (x21_1 : Int).toNat) hC38 (by omega)
            have hy38 : y111.length = (x21_1 : Int).toNat := (by rw [Ny111.out, List.length_take]; omega)
            rw [← Ny111.out] at hr38
            rw [← hy38] at hcut38
            have HR114 := Aside0.mk hr38
            have HC114 := Aside0.mk (show y111.length ≤ c0_4 from by omega)
            clear hr38 hC38 hroom38 hi038 hsz38
            have KY38 := Aside0.mk hy38
            clear hy38
            replace q38 := eq_true q38
            refine start_ (n := 9) (S := fun w' => w'.cell? ⟨gb107, 0, none⟩ = some (.int .i64 a0_0) ∧ w'.cell? ⟨gb107, 1, none⟩ = some (.int .i64 a0_1) ∧ w'.cell? ⟨gb107, 2, none⟩ = some (.int .i64 a0_2) ∧ w'.cell? ⟨gb107, 3, none⟩ = some (.slice A0_3 l0_3.length c0_3) ∧ w'.cell? ⟨gb107, 4, none⟩ = some (.slice (some ad109) l0_4.length c0_4) ∧ w'.cell? ⟨gb110, 0, none⟩ = some (.int .i64 ((rd_T50 l0_4 x21_1).f0)) ∧ w'.cell? ⟨gb110, 1, none⟩ = some (.int .i64 ((rd_T50 l0_4 x21_1).f1)) ∧ w'.cell? ⟨gb110, 2, none⟩ = some (.int .i64 ((rd_T50 l0_4 x21_1).f2)) ∧ w'.cell? ⟨gb110, 3, none⟩ = some (.int .i64 ((rd_T50 l0_4 x21_1).f3)) ∧ w'.cell? ⟨gb110, 4, none⟩ = some (.bool ((rd_T50 l0_4 x21_1).f4))) (ds := []) #[false, false, false, false, false, false, false, false, false] (by kernel_rfl) rfl rfl ⟨(blk_cell BK107.out 0).trans rfl, (blk_cell BK107.out 1).trans rfl, (blk_cell BK107.out 2).trans rfl, (blk_cell BK107.out 3).trans rfl, (blk_cell BK107.out 4).trans rfl, (blk_cell BK110.out 0).trans rfl, (blk_cell BK110.out 1).trans rfl, (blk_cell BK110.out 2).trans rfl, (blk_cell BK110.out 3).trans rfl, (blk_cell BK110.out 4).trans rfl⟩ (fun hHeld => ?_); refine with_tabW docket_Check.tab11 docket_Check.bits11 (fun HT_ HW_ => ?_)
            generalize w36.drew = w37 at BK107 BK110 HB HR114 hHeld ⊢
            refine pure_ (i := 0) (N := some 31) (v := ?_) (a' := ?_) #[true, false, false, false, false, false, false, false, false] rfl rfl (any_of HT_.out (by kernel_rfl)) (fun _ _ _ h => h) (Or.inl ⟨by rfl, ?_⟩) ?_ ?_
            rotate_left
            ·intro w'
             go_simp
             with_reducible rfl
            rotate_left
            ·simp only [Act.put, List.setIfInBounds_toArray, List.set_cons_zero, List.set_cons_succ, i64_w, i32_w]
             rfl
            refine pure_ (i := 2) (N := some 33) (v := ?_) (a' := ?_) #[true, false, true, false, false, false, false, false, false] rfl rfl (any_of HT_.out (by kernel_rfl)) (fun _ _ _ h => h) (Or.inl ⟨by rfl, ?_⟩) ?_ ?_
            rotate_left
            ·intro w'
             go_simp
             with_reducible rfl
            rotate_left
            ·simp only [Act.put, List.setIfInBounds_toArray, List.set_cons_zero, List.set_cons_succ, i64_w, i32_w]
             rfl
            refine pure_ (i := 4) (N := some 35) (v := ?_) (a' := ?_) #[true, false, true, false, true, false, false, false, false] rfl rfl (any_of HT_.out (by kernel_rfl)) (fun _ _ _ h => h) (Or.inl ⟨by rfl, ?_⟩) ?_ ?_
            rotate_left
            ·intro w'
             go_simp
             with_reducible rfl
            rotate_left
            ·simp only [Act.put, List.setIfInBounds_toArray, List.set_cons_zero, List.set_cons_succ, i64_w, i32_w]
             rfl
            refine take_ (i := 1) (N := some 32) (v := ?_) (a' := ?_) #[true, true, true, false, true, false, false, false, false] rfl rfl (take_ofW HT_.out HW_.out (by kernel_rfl)) (fun _ _ _ h => h) (Or.inl ⟨by rfl, ?_⟩) hHeld ?_ ?_
            rotate_left
            ·rintro w' ⟨s0, s1, s2, s3, s4, s5, s6, s7, s8, s9⟩
             go_simp
             with_reducible rfl
            rotate_left
            ·simp only [Act.put, List.setIfInBounds_toArray, List.set_cons_zero, List.set_cons_succ, i64_w, i32_w]
             rfl
            refine pure_ (i := 3) (N := some 34) (v := ?_) (a' := ?_) #[true, true, true, true, true, false, false, false, false] rfl rfl (any_of HT_.out (by kernel_rfl)) (fun _ _ _ h => h) (Or.inl ⟨by rfl, ?_⟩) ?_ ?_
            rotate_left
            ·intro w'
             go_simp
             with_reducible rfl
            rotate_left
            ·simp only [Act.put, List.setIfInBounds_toArray, List.set_cons_zero, List.set_cons_succ, i64_w, i32_w]
             rfl
            refine take_ (i := 5) (N := some 36) (v := ?_) (a' := ?_) #[true, true, true, true, true, true, false, false, false] rfl rfl (take_ofW HT_.out HW_.out (by kernel_rfl)) (fun _ _ _ h => h) (Or.inl ⟨by rfl, ?_⟩) hHeld ?_ ?_
            rotate_left
            ·rintro w' ⟨s0, s1, s2, s3, s4, s5, s6, s7, s8, s9⟩
             go_simp
             with_reducible rfl
            rotate_left
            ·simp only [Act.put, List.setIfInBounds_toArray, List.set_cons_zero, List.set_cons_succ, i64_w, i32_w]
             rfl
            refine one_ (i := 6) (N := some 37) #[true, true, true, true, true, true, true, false, false] rfl rfl (one_of HT_.out (by kernel_rfl)) (by decide) (fun K hK => ?_)
            refine goes_ Try.func37 (by kernel_rfl) rfl #[.slice (some ad109) y111.length c0_4, .int .i64 ((rd_T50 l0_4 x21_1).f0)] (by rfl) rfl rfl (by (try simp only [List.map_toArray, List.map_cons, List.map_nil]); first | done | rfl | (simp only [List.length_drop, List.length_take]; rfl)) ?_
            with_reducible refine (docket_find.calls _ _ y111 ((rd_T50 l0_4 x21_1).f0) t115 _ ?side1 ?side2 A22.out).mono ?_
            (case side1 => exact cB HR114 HB)
            (case side2 => exact HC114.out)
            rintro e w39 ⟨rfl, hb⟩
            refine ⟨_, rfl, ?_⟩
            replace BK107 := bB BK107 hb
            replace BK110 := bB BK110 hb
            replace HB := Aside0.mk (below_step (pB HB) hb)
            (try clear hb)
            (try clear hb2)
            (try clear hk)
            (try clear hi)
            refine hK.out _ _ ⟨(blk_cell BK107.out 0).trans rfl, (blk_cell BK107.out 1).trans rfl, (blk_cell BK107.out 2).trans rfl, (blk_cell BK107.out 3).trans rfl, (blk_cell BK107.out 4).trans rfl, (blk_cell BK110.out 0).trans rfl, (blk_cell BK110.out 1).trans rfl, (blk_cell BK110.out 2).trans rfl, (blk_cell BK110.out 3).trans rfl, (blk_cell BK110.out 4).trans rfl⟩ (fun hHeld => ?_)
            clear hK K
            refine norm_ (a' := ?_) ?_ ?_
            rotate_left
            ·show Act.put _ (some 37) _ = _
             simp only [Act.put, List.setIfInBounds_toArray, List.set_cons_zero, List.set_cons_succ, i64_w, i32_w]
             rfl
            refine pure_ (i := 7) (N := some 38) (v := ?_) (a' := ?_) #[true, true, true, true, true, true, true, true, false] rfl rfl (any_of HT_.out (by kernel_rfl)) (fun _ _ _ h => h) (Or.inl ⟨by rfl, ?_⟩) ?_ ?_
            rotate_left
            ·intro w'
             go_simp
             with_reducible rfl
            rotate_left
            ·simp only [Act.put, List.setIfInBounds_toArray, List.set_cons_zero, List.set_cons_succ, i64_w, i32_w]
             rfl
            refine pure_ (i := 8) (N := some 30) (v := ?_) (a' := ?_) #[true, true, true, true, true, true, true, true, true] rfl rfl (any_of HT_.out (by kernel_rfl)) (fun _ _ _ h => h) (Or.inl ⟨by rfl, ?_⟩) ?_ ?_
            rotate_left
            ·intro w'
             go_simp
             with_reducible rfl
            rotate_left
            ·simp only [Act.put, List.setIfInBounds_toArray, List.set_cons_zero, List.set_cons_succ, i64_w, i32_w]
             rfl
            refine done_ (done_of HT_.out (by kernel_rfl)) ?_
            obtain ⟨hcz40_0, hcz40_1, hcz40_2, hcz40_3, hcz40_4⟩ := cells5 BK110
            obtain ⟨hfz40_0, hfz40_1, hfz40_2, hfz40_3, hfz40_4⟩ := frz5 BK110
            obtain ⟨hcz41_0, hcz41_1, hcz41_2, hcz41_3, hcz41_4⟩ := cells5 BK107
            obtain ⟨hfz41_0, hfz41_1, hfz41_2, hfz41_3, hfz41_4⟩ := frz5 BK107
            try go_wp2_with (first | ((with_reducible refine gate_callee (f := 39) rfl ?_); refine goesL_ (some 43) rfl rfl Try.func39 (by kernel_rfl) rfl #[.agg #[.int .i64 ((rd_T50 l0_4 x21_1).f0), .int .i64 ((rd_T50 l0_4 x21_1).f1), .int .i64 ((rd_T50 l0_4 x21_1).f2), .int .i64 ((rd_T50 l0_4 x21_1).f3), .bool ((rd_T50 l0_4 x21_1).f4)], .int .i64 a0_0] rfl (by (try simp only [List.map_toArray, List.map_cons, List.map_nil]); first | done | rfl | (simp only [List.length_drop, List.length_take]; rfl)) ?_; (with_reducible refine (docket_sound.calls k1 ((rd_T50 l0_4 x21_1).f0) ((rd_T50 l0_4 x21_1).f1) ((rd_T50 l0_4 x21_1).f2) ((rd_T50 l0_4 x21_1).f3) ((rd_T50 l0_4 x21_1).f4) a0_0 true _ A31.out).mono ?_); rintro e w42 ⟨rfl, hb⟩; refine ⟨_, rfl, ?_⟩; replace BK107 := bB BK107 hb; replace BK110 := bB BK110 hb; replace HB := Aside0.mk (below_step (pB HB) hb); (try clear hb)))
            go_roundg k1
            case measure => have := HK1.out; omega
            case rel => exact ⟨(wrap64 (x21_1 + 1)), (by first | rfl | (simp; done) | (simp [*]; done)), H', ⟨by have := HK1.out; omega⟩, ⟨by (with_reducible repeat (first | refine blk_drewN ?_ _ | refine blk_drew ?_ | refine blk_alloc ?_ _)); exact BK107.out⟩, ⟨pB HB⟩⟩
           ·replace c32 := Bool.eq_false_iff.mpr c32
            subst c32
            have H1 : (some 1) = some r := by rw [if_neg (show ¬ (false = true) by decide)] at H; exact H
            clear H
            have H := H1
            clear H1
            obtain rfl := Option.some.inj H
            have p109 : 0 ≤ (x21_1 : Int) := of_decide_eq_true (by first | (with_reducible assumption) | assumption)
            have q109 : x21_1 < (l0_4.length : Int) := of_decide_eq_true (by first | (with_reducible assumption) | assumption)
            obtain ⟨ad109, e109, hx109_0, hx109_1, hx109_2, hx109_3, hx109_4⟩ := at_T50 HR0_4.out x21_1 p109 q109
            cases e109
            replace hx109_0 := (HB.out.cell (World.block_lt_of_cell? w _ hx109_0)).trans hx109_0
            replace hx109_1 := (HB.out.cell (World.block_lt_of_cell? w _ hx109_1)).trans hx109_1
            replace hx109_2 := (HB.out.cell (World.block_lt_of_cell? w _ hx109_2)).trans hx109_2
            replace hx109_3 := (HB.out.cell (World.block_lt_of_cell? w _ hx109_3)).trans hx109_3
            replace hx109_4 := (HB.out.cell (World.block_lt_of_cell? w _ hx109_4)).trans hx109_4
            replace p109 := eq_true p109
            replace q109 := eq_true q109
            try go_wp2_with (first | ((with_reducible refine gate_dst (N := 5) rfl ?_); refine boxE (N := 5) #[.int .i64 0, .int .i64 0, .int .i64 0, .int .i64 0, .bool false] 50 ?_; intro gb110 hg w43 hbox hb; have BK110 := Aside0.mk (hbox); have GW110 := gS HB hg; have GE110 := gS HB hg; have NB107_110 := nL BK107 hg; have NB110_107 := nG BK107 hg; replace BK107 := bB BK107 hb; replace HB := Aside0.mk (below_step (pB HB) hb); clear hb hbox hg; have hnb44 := NB110_107.out; have hnc44 := NB107_110.out; obtain ⟨hcz45_0, hcz45_1, hcz45_2, hcz45_3, hcz45_4⟩ := cells5 BK110; obtain ⟨hfz45_0, hfz45_1, hfz45_2, hfz45_3, hfz45_4⟩ := frz5 BK110))
            have n0_ : Aside0 ((((((w43.setCell ⟨gb110, 0, none⟩ (.int .i64 ((rd_T50 l0_4 x21_1).f0))).setCell ⟨gb110, 1, none⟩ (.int .i64 ((rd_T50 l0_4 x21_1).f1))).setCell ⟨gb110, 2, none⟩ (.int .i64 ((rd_T50 l0_4 x21_1).f2))).setCell ⟨gb110, 3, none⟩ (.int .i64 ((rd_T50 l0_4 x21_1).f3))).setCell ⟨gb110, 4, none⟩ (.bool ((rd_T50 l0_4 x21_1).f4))).heap[gb107]? = some (.cells #[.int .i64 a0_0, .int .i64 a0_1, .int .i64 a0_2, .slice A0_3 l0_3.length c0_3, .slice (some ad109) l0_4.length c0_4] 30 (0, 0))) := ⟨by (with_reducible repeat (first | refine blk_drewN ?_ _ | refine blk_drew ?_ | refine blk_alloc ?_ _)); refine blk_far ?_ NB107_110.out _; (with_reducible repeat (first | refine blk_drewN ?_ _ | refine blk_drew ?_ | refine blk_alloc ?_ _)); refine blk_far ?_ NB107_110.out _; (with_reducible repeat (first | refine blk_drewN ?_ _ | refine blk_drew ?_ | refine blk_alloc ?_ _)); refine blk_far ?_ NB107_110.out _; (with_reducible repeat (first | refine blk_drewN ?_ _ | refine blk_drew ?_ | refine blk_alloc ?_ _)); refine blk_far ?_ NB107_110.out _; (with_reducible repeat (first | refine blk_drewN ?_ _ | refine blk_drew ?_ | refine blk_alloc ?_ _)); refine blk_far ?_ NB107_110.out _; (with_reducible repeat (first | refine blk_drewN ?_ _ | refine blk_drew ?_ | refine blk_alloc ?_ _)); exact BK107.out⟩
            have n1_ : Aside0 ((((((w43.setCell ⟨gb110, 0, none⟩ (.int .i64 ((rd_T50 l0_4 x21_1).f0))).setCell ⟨gb110, 1, none⟩ (.int .i64 ((rd_T50 l0_4 x21_1).f1))).setCell ⟨gb110, 2, none⟩ (.int .i64 ((rd_T50 l0_4 x21_1).f2))).setCell ⟨gb110, 3, none⟩ (.int .i64 ((rd_T50 l0_4 x21_1).f3))).setCell ⟨gb110, 4, none⟩ (.bool ((rd_T50 l0_4 x21_1).f4))).heap[gb110]? = some (.cells #[.int .i64 ((rd_T50 l0_4 x21_1).f0), .int .i64 ((rd_T50 l0_4 x21_1).f1), .int .i64 ((rd_T50 l0_4 x21_1).f2), .int .i64 ((rd_T50 l0_4 x21_1).f3), .bool ((rd_T50 l0_4 x21_1).f4)] 50 (0, 0))) := ⟨by (with_reducible repeat (first | refine blk_drewN ?_ _ | refine blk_drew ?_ | refine blk_alloc ?_ _)); refine blk_put (cs := #[.int .i64 ((rd_T50 l0_4 x21_1).f0), .int .i64 ((rd_T50 l0_4 x21_1).f1), .int .i64 ((rd_T50 l0_4 x21_1).f2), .int .i64 ((rd_T50 l0_4 x21_1).f3), .bool false]) ?_ 4 _ rfl; (with_reducible repeat (first | refine blk_drewN ?_ _ | refine blk_drew ?_ | refine blk_alloc ?_ _)); refine blk_put (cs := #[.int .i64 ((rd_T50 l0_4 x21_1).f0), .int .i64 ((rd_T50 l0_4 x21_1).f1), .int .i64 ((rd_T50 l0_4 x21_1).f2), .int .i64 0, .bool false]) ?_ 3 _ rfl; (with_reducible repeat (first | refine blk_drewN ?_ _ | refine blk_drew ?_ | refine blk_alloc ?_ _)); refine blk_put (cs := #[.int .i64 ((rd_T50 l0_4 x21_1).f0), .int .i64 ((rd_T50 l0_4 x21_1).f1), .int .i64 0, .int .i64 0, .bool false]) ?_ 2 _ rfl; (with_reducible repeat (first | refine blk_drewN ?_ _ | refine blk_drew ?_ | refine blk_alloc ?_ _)); refine blk_put (cs := #[.int .i64 ((rd_T50 l0_4 x21_1).f0), .int .i64 0, .int .i64 0, .int .i64 0, .bool false]) ?_ 1 _ rfl; (with_reducible repeat (first | refine blk_drewN ?_ _ | refine blk_drew ?_ | refine blk_alloc ?_ _)); refine blk_put (cs := #[.int .i64 0, .int .i64 0, .int .i64 0, .int .i64 0, .bool false]) ?_ 0 _ rfl; (with_reducible repeat (first | refine blk_drewN ?_ _ | refine blk_drew ?_ | refine blk_alloc ?_ _)); exact BK110.out⟩
            have n2_ : Aside0 (Below w.heap.size w (((((w43.setCell ⟨gb110, 0, none⟩ (.int .i64 ((rd_T50 l0_4 x21_1).f0))).setCell ⟨gb110, 1, none⟩ (.int .i64 ((rd_T50 l0_4 x21_1).f1))).setCell ⟨gb110, 2, none⟩ (.int .i64 ((rd_T50 l0_4 x21_1).f2))).setCell ⟨gb110, 3, none⟩ (.int .i64 ((rd_T50 l0_4 x21_1).f3))).setCell ⟨gb110, 4, none⟩ (.bool ((rd_T50 l0_4 x21_1).f4)))) := ⟨pB HB⟩
            (try clear BK107)
            (try clear BK110)
            (try clear HB)
            generalize (((((w43.setCell ⟨gb110, 0, none⟩ (.int .i64 ((rd_T50 l0_4 x21_1).f0))).setCell ⟨gb110, 1, none⟩ (.int .i64 ((rd_T50 l0_4 x21_1).f1))).setCell ⟨gb110, 2, none⟩ (.int .i64 ((rd_T50 l0_4 x21_1).f2))).setCell ⟨gb110, 3, none⟩ (.int .i64 ((rd_T50 l0_4 x21_1).f3))).setCell ⟨gb110, 4, none⟩ (.bool ((rd_T50 l0_4 x21_1).f4))) = w46 at n0_ n1_ n2_ ⊢
            have BK107 := n0_
            have BK110 := n1_
            have HB := n2_
            clear n0_ n1_ n2_
            replace BK107 := Aside0.mk (blk_drew BK107.out)
            replace BK110 := Aside0.mk (blk_drew BK110.out)
            replace HB := Aside0.mk (below_drew1 HB.out)
            have q48 : (x21_1 : Int) ≤ ((l0_4.length : Int) : Int) := of_decide_eq_true (by first | (with_reducible assumption) | assumption)
            obtain ⟨i048, hi048, _, hsz48, _⟩ := info_parts info50
            have hroom48 : l0_4.length ≤ c0_4 := HC0_4.out
            have hC48 : Kd.C k50 _ (some ad109) l0_4.length l0_4 := HR0_4.out
            have hcut48 := cut_to (P := Try.prog) 28 50 .i64 Try.underlying28 hi048 (some ad109) l0_4.length c0_4 x21_1 (of_decide_eq_true (by first | (with_reducible assumption) | assumption)) q48 hroom48
            have hr48 := Kd.C_take (m := (x21_1 : Int).toNat) hC48 (by omega)
            have hy48 : y111.length = (x21_1 : Int).toNat := (by rw [Ny111.out, List.length_take]; omega)
            rw [← Ny111.out] at hr48
            rw [← hy48] at hcut48
            have HR114 := Aside0.mk hr48
            have HC114 := Aside0.mk (show y111.length ≤ c0_4 from by omega)
            clear hr48 hC48 hroom48 hi048 hsz48
            have KY48 := Aside0.mk hy48
            clear hy48
            replace q48 := eq_true q48
            refine start_ (n := 9) (S := fun w' => w'.cell? ⟨gb107, 0, none⟩ = some (.int .i64 a0_0) ∧ w'.cell? ⟨gb107, 1, none⟩ = some (.int .i64 a0_1) ∧ w'.cell? ⟨gb107, 2, none⟩ = some (.int .i64 a0_2) ∧ w'.cell? ⟨gb107, 3, none⟩ = some (.slice A0_3 l0_3.length c0_3) ∧ w'.cell? ⟨gb107, 4, none⟩ = some (.slice (some ad109) l0_4.length c0_4) ∧ w'.cell? ⟨gb110, 0, none⟩ = some (.int .i64 ((rd_T50 l0_4 x21_1).f0)) ∧ w'.cell? ⟨gb110, 1, none⟩ = some (.int .i64 ((rd_T50 l0_4 x21_1).f1)) ∧ w'.cell? ⟨gb110, 2, none⟩ = some (.int .i64 ((rd_T50 l0_4 x21_1).f2)) ∧ w'.cell? ⟨gb110, 3, none⟩ = some (.int .i64 ((rd_T50 l0_4 x21_1).f3)) ∧ w'.cell? ⟨gb110, 4, none⟩ = some (.bool ((rd_T50 l0_4 x21_1).f4))) (ds := []) #[false, false, false, false, false, false, false, false, false] (by kernel_rfl) rfl rfl ⟨(blk_cell BK107.out 0).trans rfl, (blk_cell BK107.out 1).trans rfl, (blk_cell BK107.out 2).trans rfl, (blk_cell BK107.out 3).trans rfl, (blk_cell BK107.out 4).trans rfl, (blk_cell BK110.out 0).trans rfl, (blk_cell BK110.out 1).trans rfl, (blk_cell BK110.out 2).trans rfl, (blk_cell BK110.out 3).trans rfl, (blk_cell BK110.out 4).trans rfl⟩ (fun hHeld => ?_); refine with_tabW docket_Check.tab11 docket_Check.bits11 (fun HT_ HW_ => ?_)
            generalize w46.drew = w47 at BK107 BK110 HB HR114 hHeld ⊢
            refine pure_ (i := 0) (N := some 31) (v := ?_) (a' := ?_) #[true, false, false, false, false, false, false, false, false] rfl rfl (any_of HT_.out (by kernel_rfl)) (fun _ _ _ h => h) (Or.inl ⟨by rfl, ?_⟩) ?_ ?_
            rotate_left
            ·intro w'
             go_simp
             with_reducible rfl
            rotate_left
            ·simp only [Act.put, List.setIfInBounds_toArray, List.set_cons_zero, List.set_cons_succ, i64_w, i32_w]
             rfl
            refine pure_ (i := 2) (N := some 33) (v := ?_) (a' := ?_) #[true, false, true, false, false, false, false, false, false] rfl rfl (any_of HT_.out (by kernel_rfl)) (fun _ _ _ h => h) (Or.inl ⟨by rfl, ?_⟩) ?_ ?_
            rotate_left
            ·intro w'
             go_simp
             with_reducible rfl
            rotate_left
            ·simp only [Act.put, List.setIfInBounds_toArray, List.set_cons_zero, List.set_cons_succ, i64_w, i32_w]
             rfl
            refine pure_ (i := 4) (N := some 35) (v := ?_) (a' := ?_) #[true, false, true, false, true, false, false, false, false] rfl rfl (any_of HT_.out (by kernel_rfl)) (fun _ _ _ h => h) (Or.inl ⟨by rfl, ?_⟩) ?_ ?_
            rotate_left
            ·intro w'
             go_simp
             with_reducible rfl
            rotate_left
            ·simp only [Act.put, List.setIfInBounds_toArray, List.set_cons_zero, List.set_cons_succ, i64_w, i32_w]
             rfl
            refine take_ (i := 1) (N := some 32) (v := ?_) (a' := ?_) #[true, true, true, false, true, false, false, false, false] rfl rfl (take_ofW HT_.out HW_.out (by kernel_rfl)) (fun _ _ _ h => h) (Or.inl ⟨by rfl, ?_⟩) hHeld ?_ ?_
            rotate_left
            ·rintro w' ⟨s0, s1, s2, s3, s4, s5, s6, s7, s8, s9⟩
             go_simp
             with_reducible rfl
            rotate_left
            ·simp only [Act.put, List.setIfInBounds_toArray, List.set_cons_zero, List.set_cons_succ, i64_w, i32_w]
             rfl
            refine pure_ (i := 3) (N := some 34) (v := ?_) (a' := ?_) #[true, true, true, true, true, false, false, false, false] rfl rfl (any_of HT_.out (by kernel_rfl)) (fun _ _ _ h => h) (Or.inl ⟨by rfl, ?_⟩) ?_ ?_
            rotate_left
            ·intro w'
             go_simp
             with_reducible rfl
            rotate_left
            ·simp only [Act.put, List.setIfInBounds_toArray, List.set_cons_zero, List.set_cons_succ, i64_w, i32_w]
             rfl
            refine take_ (i := 5) (N := some 36) (v := ?_) (a' := ?_) #[true, true, true, true, true, true, false, false, false] rfl rfl (take_ofW HT_.out HW_.out (by kernel_rfl)) (fun _ _ _ h => h) (Or.inl ⟨by rfl, ?_⟩) hHeld ?_ ?_
            rotate_left
            ·rintro w' ⟨s0, s1, s2, s3, s4, s5, s6, s7, s8, s9⟩
             go_simp
             with_reducible rfl
            rotate_left
            ·simp only [Act.put, List.setIfInBounds_toArray, List.set_cons_zero, List.set_cons_succ, i64_w, i32_w]
             rfl
            refine one_ (i := 6) (N := some 37) #[true, true, true, true, true, true, true, false, false] rfl rfl (one_of HT_.out (by kernel_rfl)) (by decide) (fun K hK => ?_)
            refine goes_ Try.func37 (by kernel_rfl) rfl #[.slice (some ad109) y111.length c0_4, .int .i64 ((rd_T50 l0_4 x21_1).f0)] (by rfl) rfl rfl (by (try simp only [List.map_toArray, List.map_cons, List.map_nil]); first | done | rfl | (simp only [List.length_drop, List.length_take]; rfl)) ?_
            with_reducible refine (docket_find.calls _ _ y111 ((rd_T50 l0_4 x21_1).f0) t115 _ ?side1 ?side2 A22.out).mono ?_
            (case side1 => exact cB HR114 HB)
            (case side2 => exact HC114.out)
            rintro e w49 ⟨rfl, hb⟩
            refine ⟨_, rfl, ?_⟩
            replace BK107 := bB BK107 hb
            replace BK110 := bB BK110 hb
            replace HB := Aside0.mk (below_step (pB HB) hb)
            (try clear hb)
            (try clear hb2)
            (try clear hk)
            (try clear hi)
            refine hK.out _ _ ⟨(blk_cell BK107.out 0).trans rfl, (blk_cell BK107.out 1).trans rfl, (blk_cell BK107.out 2).trans rfl, (blk_cell BK107.out 3).trans rfl, (blk_cell BK107.out 4).trans rfl, (blk_cell BK110.out 0).trans rfl, (blk_cell BK110.out 1).trans rfl, (blk_cell BK110.out 2).trans rfl, (blk_cell BK110.out 3).trans rfl, (blk_cell BK110.out 4).trans rfl⟩ (fun hHeld => ?_)
            clear hK K
            refine norm_ (a' := ?_) ?_ ?_
            rotate_left
            ·show Act.put _ (some 37) _ = _
             simp only [Act.put, List.setIfInBounds_toArray, List.set_cons_zero, List.set_cons_succ, i64_w, i32_w]
             rfl
            refine pure_ (i := 7) (N := some 38) (v := ?_) (a' := ?_) #[true, true, true, true, true, true, true, true, false] rfl rfl (any_of HT_.out (by kernel_rfl)) (fun _ _ _ h => h) (Or.inl ⟨by rfl, ?_⟩) ?_ ?_
            rotate_left
            ·intro w'
             go_simp
             with_reducible rfl
            rotate_left
            ·simp only [Act.put, List.setIfInBounds_toArray, List.set_cons_zero, List.set_cons_succ, i64_w, i32_w]
             rfl
            refine pure_ (i := 8) (N := some 30) (v := ?_) (a' := ?_) #[true, true, true, true, true, true, true, true, true] rfl rfl (any_of HT_.out (by kernel_rfl)) (fun _ _ _ h => h) (Or.inl ⟨by rfl, ?_⟩) ?_ ?_
            rotate_left
            ·intro w'
             go_simp
             with_reducible rfl
            rotate_left
            ·simp only [Act.put, List.setIfInBounds_toArray, List.set_cons_zero, List.set_cons_succ, i64_w, i32_w]
             rfl
            refine done_ (done_of HT_.out (by kernel_rfl)) ?_
            obtain ⟨hcz50_0, hcz50_1, hcz50_2, hcz50_3, hcz50_4⟩ := cells5 BK110
            obtain ⟨hfz50_0, hfz50_1, hfz50_2, hfz50_3, hfz50_4⟩ := frz5 BK110
            obtain ⟨hcz51_0, hcz51_1, hcz51_2, hcz51_3, hcz51_4⟩ := cells5 BK107
            obtain ⟨hfz51_0, hfz51_1, hfz51_2, hfz51_3, hfz51_4⟩ := frz5 BK107
            try go_wp2_with (first | ((with_reducible refine gate_callee (f := 39) rfl ?_); refine goesL_ (some 43) rfl rfl Try.func39 (by kernel_rfl) rfl #[.agg #[.int .i64 ((rd_T50 l0_4 x21_1).f0), .int .i64 ((rd_T50 l0_4 x21_1).f1), .int .i64 ((rd_T50 l0_4 x21_1).f2), .int .i64 ((rd_T50 l0_4 x21_1).f3), .bool ((rd_T50 l0_4 x21_1).f4)], .int .i64 a0_0] rfl (by (try simp only [List.map_toArray, List.map_cons, List.map_nil]); first | done | rfl | (simp only [List.length_drop, List.length_take]; rfl)) ?_; (with_reducible refine (docket_sound.calls k1 ((rd_T50 l0_4 x21_1).f0) ((rd_T50 l0_4 x21_1).f1) ((rd_T50 l0_4 x21_1).f2) ((rd_T50 l0_4 x21_1).f3) ((rd_T50 l0_4 x21_1).f4) a0_0 false _ A31.out).mono ?_); rintro e w52 ⟨rfl, hb⟩; refine ⟨_, rfl, ?_⟩; replace BK107 := bB BK107 hb; replace BK110 := bB BK110 hb; replace HB := Aside0.mk (below_step (pB HB) hb); (try clear hb)))
            go_ret
            exact ⟨by first | rfl | (simp [errW_none, errW_some] <;> rfl) | (simp [*, errW_none, errW_some] <;> rfl), pB HB⟩
         ·rw [if_neg c21] at H
          exact absurd H (by simp)
       ·rw [if_neg c15] at H
        exact absurd H (by simp)
      ·rw [if_neg c14] at H
       exact absurd H (by simp)
     ·rw [if_neg c13] at H
      have c13b0 : decide (x21_1 < (l0_4.length : Int)) = false := decide_eq_false c13
      clear c13
      obtain rfl := Option.some.inj H
      go_wp2
      go_ret
      exact ⟨by first | rfl | (simp [errW_none, errW_some] <;> rfl) | (simp [*, errW_none, errW_some] <;> rfl), pB HB⟩
 ·rw [if_neg c3] at H
  have c3b0 : (t108 == 0) = false := beq_eq_false_iff_ne.mpr c3
  have c3b1 : (t108 != 0) = true := bne_iff_ne.mpr c3
  obtain rfl := Option.some.inj H
  go_enter Try.func21, Try.ntmps21
  go_wp2_with (first | ((with_reducible refine gate_dst (N := 1) rfl ?_); refine boxE (N := 1) #[.int .i64 a0_0, .int .i64 a0_1, .int .i64 a0_2, .slice A0_3 l0_3.length c0_3, .slice A0_4 l0_4.length c0_4] 30 ?_; intro gb107 hg w53 hbox hb; have BK107 := Aside0.mk (hbox); have GW107 := gS HB hg; have GE107 := gS HB hg; replace HB := Aside0.mk (below_step (pB HB) hb); clear hb hbox hg; obtain ⟨hcz54_0, hcz54_1, hcz54_2, hcz54_3, hcz54_4⟩ := cells5 BK107; obtain ⟨hfz54_0, hfz54_1, hfz54_2, hfz54_3, hfz54_4⟩ := frz5 BK107) | ((with_reducible refine gate_callee (f := 34) rfl ?_); refine goesL_ (some 10) rfl rfl Try.func34 (by kernel_rfl) rfl #[.int .i64 a0_0, .agg #[.int .i64 a0_1, .int .i64 a0_2, .slice A0_3 l0_3.length c0_3]] rfl (by (try simp only [List.map_toArray, List.map_cons, List.map_nil]); first | done | rfl | (simp only [List.length_drop, List.length_take]; rfl)) ?_; (with_reducible refine (docket_checkTerms.calls k a0_0 a0_1 a0_2 _ _ l0_3 t108 _ ?side1 ?side2 A2.out).mono ?_); (case side1 => exact cB HR0_3 HB); (case side2 => exact HC0_3.out); rintro e w55 ⟨rfl, hb⟩; refine ⟨_, rfl, ?_⟩; replace BK107 := bB BK107 hb; replace HB := Aside0.mk (below_step (pB HB) hb); (try clear hb)))
  go_ret
  exact ⟨by first | rfl | (simp [errW_none, errW_some] <;> rfl) | (simp [*, errW_none, errW_some] <;> rfl), pB HB⟩

end Go.Proofs.Ytpfiecjacpbhkaa.D

/- What the Go functions named below come to, each told as_ a Lean function ('.f'), with the proof ('.calls'): no condition beyond those that each theorem states. Written by a program of this session's over the translation. -/
namespace Go.Proofs.Ytpfiecjacpbhkaa.O
open Go.RowKit Go.Proofs.YtpfiecjacpbhkaaW.PrintWords Go.Proofs.YtpfiecjacpbhkaaW.PrintLast Go.Proofs.YtpfiecjacpbhkaaW.PrintMore
attribute [local go_sem] max2_int min2_int max_two min_two max_three min_three max_four min_four   -- for this text's walks alone
set_option linter.unusedVariables false
set_option linter.unusedSimpArgs false



def errW : Option Int → Value
  | none => .nilIface
  | some c => .iface 0 (.int .i64 c)
theorem errW_none : errW none = .nilIface := rfl
theorem errW_some (c : Int) : errW (some c) = .iface 0 (.int .i64 c) := rfl

-- the values' own types

end Go.Proofs.Ytpfiecjacpbhkaa.O

/- What the Go functions named below come to, each told as_ a Lean function ('.f'), with the proof ('.calls'): no condition beyond those that each theorem states. Written by a program of this session's over the translation. -/
namespace Go.Proofs.Ytpfiecjacpbhkaa.O
open Go.RowKit Go.Proofs.YtpfiecjacpbhkaaW.PrintWords Go.Proofs.YtpfiecjacpbhkaaW.PrintLast Go.Proofs.YtpfiecjacpbhkaaW.PrintMore
attribute [local go_sem] max2_int min2_int max_two min_two max_three min_three max_four min_four   -- for this text's walks alone
set_option linter.unusedVariables false
set_option linter.unusedSimpArgs false

/-! ### cmp_Or_int: function 53 -/
def cmp_Or_int.l0 : Nat → Int → List Int → Int → Int → Option (Int)
  | 0, _, _, _, _ => none
  | k + 1, x3, x6, x7, x8 => if x8 < x7 then (if 0 ≤ x8 then (if x8 < (x6.length : Int) then (if (rd x6 x8) = x3 then (cmp_Or_int.l0 k x3 x6 x7 (wrap64 (x8 + 1))) else (some (rd x6 x8))) else (none)) else (none)) else (some x3)
def cmp_Or_int.f (k : Nat) (l0 : List Int) : Option (Int) := cmp_Or_int.l0 k 0 l0 (l0.length : Int) 0
theorem cmp_Or_int.mono_l : ∀ k, (∀ y0 y1 y2 y3, LeO (cmp_Or_int.l0 k y0 y1 y2 y3) (cmp_Or_int.l0 (k + 1) y0 y1 y2 y3))
  | 0 => fun _ _ _ _ r h => by simp [cmp_Or_int.l0] at h
  | k + 1 => by
    have ih0 := cmp_Or_int.mono_l k
    · intro y0 y1 y2 y3
      unfold cmp_Or_int.l0
      repeat' first
      | (with_reducible exact ih0 _ _ _ _)
      | (with_reducible exact LeO.refl _)
      | (with_reducible exact LeO.none _)
      | (with_reducible refine LeO.ite ?_ ?_)
      | (with_reducible refine LeO.bind ?_ (fun _ => ?_))
      | exact ih0 _ _ _ _
      | exact LeO.none _
      | refine LeO.ite ?_ ?_
      | refine LeO.bind ?_ (fun _ => ?_)
theorem cmp_Or_int.mono : ∀ a0 k, LeO (cmp_Or_int.f k a0) (cmp_Or_int.f (k + 1) a0) := by
  intro a0 k
  have ih0 := cmp_Or_int.mono_l k
  unfold cmp_Or_int.f
  repeat' first
      | (with_reducible exact ih0 _ _ _ _)
      | (with_reducible exact LeO.refl _)
      | (with_reducible exact LeO.none _)
      | (with_reducible refine LeO.ite ?_ ?_)
      | (with_reducible refine LeO.bind ?_ (fun _ => ?_))
      | exact ih0 _ _ _ _
      | exact LeO.none _
      | refine LeO.ite ?_ ?_
      | refine LeO.bind ?_ (fun _ => ?_)
set_option maxHeartbeats 8000000 in
set_option maxRecDepth 100000 in
theorem cmp_Or_int.calls (k : Nat) (A0 : Option Addr) (c0 : Nat) (l0 : List Int) (r : Int) (w : World) (hr0 : Kd.C (Kd.int .i64) w A0 l0.length l0) (hc0 : l0.length ≤ c0) (h : cmp_Or_int.f k l0 = some r) :
    Calls Try.prog 53 #[.slice A0 l0.length c0] w fun e w' => e = .returned (.int .i64 r) ∧ Drawn0 w w' := by
  have HR0 := Aside0.mk hr0
  have HC0 := Aside0.mk hc0
  clear hr0 hc0
  have H : (cmp_Or_int.l0 k 0 l0 (l0.length : Int) 0) = some r := h
  clear h
  have H' := Aside0.mk H
  clear H
  go_enter Try.func53, Try.ntmps53
  go_wp2
  go_loopg [8] k (fun kq v8 w' => ∃ (x8_1 : Int), v8 = .int .i64 x8_1 ∧ Aside0 (cmp_Or_int.l0 kq 0 l0 (l0.length : Int) x8_1 = some r) ∧ Aside0 (kq ≤ k) ∧ Drawn0 w w')
  case atStart => exact ⟨(0), (by first | rfl | (simp; done) | (simp [*]; done)), H', ⟨Nat.le_refl _⟩, by repeat (first | exact Drawn0.refl _ | apply Drawn0.step)⟩
  case round =>
    clear H'
    obtain ⟨x8_1, rfl, HA, HK1, ⟨m1, rfl⟩⟩ := hrel
    cases gk with
    | zero => exact absurd HA.out (by simp [cmp_Or_int.l0])
    | succ k1 =>
      have H := HA.out
      clear HA
      simp only [cmp_Or_int.l0] at H
      by_cases c2 : x8_1 < (l0.length : Int)
      · rw [if_pos c2] at H
        have c2b0 : decide (x8_1 < (l0.length : Int)) = true := decide_eq_true c2
        clear c2
        by_cases c3 : 0 ≤ x8_1
        · rw [if_pos c3] at H
          have c3b0 : decide (0 ≤ x8_1) = true := decide_eq_true c3
          clear c3
          by_cases c4 : x8_1 < (l0.length : Int)
          · rw [if_pos c4] at H
            have c4b0 : decide (x8_1 < (l0.length : Int)) = true := decide_eq_true c4
            clear c4
            by_cases c5 : (rd l0 x8_1) = 0
            · rw [if_pos c5] at H
              have c5b0 : ((rd l0 x8_1) == 0) = true := beq_iff_eq.mpr c5
              have c5b1 : ((rd l0 x8_1) != 0) = false := bne_eq_false_iff_eq.mpr c5
              clear c5
              have H' := Aside0.mk H
              clear H
              have p101 : 0 ≤ (x8_1 : Int) := of_decide_eq_true (by first | (with_reducible assumption) | assumption)
              have q101 : x8_1 < (l0.length : Int) := of_decide_eq_true (by first | (with_reducible assumption) | assumption)
              obtain ⟨ad101, e101, hx101_0⟩ := Kd.at_int HR0.out x8_1 p101 q101
              cases e101
              replace p101 := eq_true p101
              replace q101 := eq_true q101
              go_wp2
              go_roundg k1
              case measure => have := HK1.out; omega
              case rel => exact ⟨(wrap64 (x8_1 + 1)), (by first | rfl | (simp; done) | (simp [*]; done)), H', ⟨by have := HK1.out; omega⟩, by repeat (first | exact Drawn0.refl _ | apply Drawn0.step)⟩
            · rw [if_neg c5] at H
              have c5b0 : ((rd l0 x8_1) == 0) = false := beq_eq_false_iff_ne.mpr c5
              have c5b1 : ((rd l0 x8_1) != 0) = true := bne_iff_ne.mpr c5
              obtain rfl := Option.some.inj H
              have p101 : 0 ≤ (x8_1 : Int) := of_decide_eq_true (by first | (with_reducible assumption) | assumption)
              have q101 : x8_1 < (l0.length : Int) := of_decide_eq_true (by first | (with_reducible assumption) | assumption)
              obtain ⟨ad101, e101, hx101_0⟩ := Kd.at_int HR0.out x8_1 p101 q101
              cases e101
              replace p101 := eq_true p101
              replace q101 := eq_true q101
              go_wp2
              go_ret
              exact ⟨by first | rfl | (simp; done) | (simp [*]; done), by repeat (first | exact Drawn0.refl _ | apply Drawn0.step)⟩
          · rw [if_neg c4] at H
            exact absurd H (by simp)
        · rw [if_neg c3] at H
          exact absurd H (by simp)
      · rw [if_neg c2] at H
        have c2b0 : decide (x8_1 < (l0.length : Int)) = false := decide_eq_false c2
        clear c2
        obtain rfl := Option.some.inj H
        go_wp2
        go_ret
        exact ⟨by first | rfl | (simp; done) | (simp [*]; done), by repeat (first | exact Drawn0.refl _ | apply Drawn0.step)⟩

end Go.Proofs.Ytpfiecjacpbhkaa.O

/- slices.SortFunc at the rulings and cmp.Compare at int are the library's own texts: laid in plain words by the shelf's tool. -/
namespace Go.Proofs
open Go.Shelf
def Try.laysSortFunc_ren : Go.Shelf.Ren := ⟨fun | 6 => 51 | 15 => 63 | 14 => 62 | 28 => 79 | 29 => 80 | 20 => 71 | 21 => 72 | 22 => 73 | 23 => 74 | 24 => 75 | 25 => 76 | 26 => 77 | 27 => 78 | 46 => 89 | 47 => 90 | 48 => 91 | 49 => 92 | 50 => 93 | 57 => 96 | n => n, fun | 22 => 32 | 24 => 52 | 25 => 101 | 3 => 3 | 39 => 112 | 0 => 0 | 53 => 125 | 55 => 127 | 4 => 4 | 46 => 119 | 45 => 118 | 50 => 62 | 5 => 5 | 9 => 9 | 66 => 133 | 70 => 137 | 76 => 140 | 77 => 108 | n => n, fun | n => n⟩
theorem Try.laysSortFunc : Go.Proofs.SlLaysF0.n6 Try.prog Try.laysSortFunc_ren := {
  mixed := by kernel_rfl
  f6 := ⟨Try.f51.name, by decide, Try.func51.trans (congrArg some (by kernel_rfl))⟩
  f14 := ⟨Try.f62.name, by decide, Try.func62.trans (congrArg some (by kernel_rfl))⟩
  f15 := Try.func63.trans (congrArg some (by kernel_rfl))
  f20 := ⟨Try.f71.name, by decide, Try.func71.trans (congrArg some (by kernel_rfl))⟩
  f21 := ⟨Try.f72.name, by decide, Try.func72.trans (congrArg some (by kernel_rfl))⟩
  f22 := ⟨Try.f73.name, by decide, Try.func73.trans (congrArg some (by kernel_rfl))⟩
  f23 := ⟨Try.f74.name, by decide, Try.func74.trans (congrArg some (by kernel_rfl))⟩
  f24 := ⟨Try.f75.name, by decide, Try.func75.trans (congrArg some (by kernel_rfl))⟩
  f25 := ⟨Try.f76.name, by decide, Try.func76.trans (congrArg some (by kernel_rfl))⟩
  f26 := ⟨Try.f77.name, by decide, Try.func77.trans (congrArg some (by kernel_rfl))⟩
  f27 := ⟨Try.f78.name, by decide, Try.func78.trans (congrArg some (by kernel_rfl))⟩
  f28 := Try.func79.trans (congrArg some (by kernel_rfl))
  f29 := Try.func80.trans (congrArg some (by kernel_rfl))
  f46 := ⟨Try.f89.name, by decide, Try.func89.trans (congrArg some (by kernel_rfl))⟩
  f47 := Try.func90.trans (congrArg some (by kernel_rfl))
  f48 := Try.func91.trans (congrArg some (by kernel_rfl))
  f49 := ⟨Try.f92.name, by decide, Try.func92.trans (congrArg some (by kernel_rfl))⟩
  f50 := ⟨Try.f93.name, by decide, Try.func93.trans (congrArg some (by kernel_rfl))⟩
  f57 := ⟨Try.f96.name, by decide, Try.func96.trans (congrArg some (by kernel_rfl))⟩
  t0 := Try.underlying0
  a0 := Try.isAgg0
  z0 := Try.sizeOf0
  v0 := Try.zeroValue0
  t3 := Try.underlying3
  a3 := Try.isAgg3
  z3 := Try.sizeOf3
  v3 := Try.zeroValue3
  t4 := Try.underlying4
  a4 := Try.isAgg4
  z4 := Try.sizeOf4
  v4 := Try.zeroValue4
  t5 := Try.underlying5
  a5 := Try.isAgg5
  z5 := Try.sizeOf5
  v5 := Try.zeroValue5
  t9 := Try.underlying9
  a9 := Try.isAgg9
  z9 := Try.sizeOf9
  v9 := Try.zeroValue9
  t22 := Try.underlying32
  a22 := Try.isAgg32
  z22 := Try.sizeOf32
  v22 := Try.zeroValue32
  t25 := Try.underlying101
  a25 := Try.isAgg101
  z25 := Try.sizeOf101
  v25 := Try.zeroValue101
  t39 := Try.underlying112
  a39 := Try.isAgg112
  z39 := Try.sizeOf112
  v39 := Try.zeroValue112
  t45 := Try.underlying118
  a45 := Try.isAgg118
  z45 := Try.sizeOf118
  v45 := Try.zeroValue118
  t46 := Try.underlying119
  a46 := Try.isAgg119
  z46 := Try.sizeOf119
  v46 := Try.zeroValue119
  t50 := Try.underlying62
  a50 := Try.isAgg62
  z50 := Try.sizeOf62
  v50 := Try.zeroValue62
  t53 := Try.underlying125
  a53 := Try.isAgg125
  z53 := Try.sizeOf125
  v53 := Try.zeroValue125
  t55 := Try.underlying127
  a55 := Try.isAgg127
  z55 := Try.sizeOf127
  v55 := Try.zeroValue127
  t66 := Try.underlying133
  a66 := Try.isAgg133
  z66 := Try.sizeOf133
  v66 := Try.zeroValue133
  t70 := Try.underlying137
  a70 := Try.isAgg137
  z70 := Try.sizeOf137
  v70 := Try.zeroValue137
  t76 := Try.underlying140
  a76 := Try.isAgg140
  z76 := Try.sizeOf140
  v76 := Try.zeroValue140
  t77 := Try.underlying108
  a77 := Try.isAgg108
  z77 := Try.sizeOf108
  v77 := Try.zeroValue108 }
def Try.laysCompare_ren : Go.Shelf.Ren := ⟨fun | 5 => 54 | 7 => 64 | n => n, fun | 22 => 3 | 3 => 3 | 4 => 4 | n => n, fun | n => n⟩
theorem Try.laysCompare : Go.Proofs.SlLaysC2.n5 Try.prog Try.laysCompare_ren := {
  mixed := by kernel_rfl
  f5 := ⟨Try.f54.name, by decide, Try.func54.trans (congrArg some (by kernel_rfl))⟩
  f7 := ⟨Try.f64.name, by decide, Try.func64.trans (congrArg some (by kernel_rfl))⟩
  t3 := Try.underlying3
  a3 := Try.isAgg3
  z3 := Try.sizeOf3
  v3 := Try.zeroValue3
  t4 := Try.underlying4
  a4 := Try.isAgg4
  z4 := Try.sizeOf4
  v4 := Try.zeroValue4
  t22 := Try.underlying3
  a22 := Try.isAgg3
  z22 := Try.sizeOf3
  v22 := Try.zeroValue3 }
end Go.Proofs

/- slices.SortFunc at the rulings, with advance's closure: at 12 rulings or fewer, what Go's insertion sort leaves. -/
namespace Go.Proofs.Ytpfiecjacpbhkaa.D
open Go.RowKit Go.Proofs.YtpfiecjacpbhkaaW.PrintWords Go.Proofs.YtpfiecjacpbhkaaW.PrintLast Go.Proofs.YtpfiecjacpbhkaaW.PrintMore Go.Shelf Go.Sort
set_option linter.unusedVariables false
set_option linter.unusedSimpArgs false

def orr (a b : Int) : Int := if a = 0 then b else a
def rulCmp (x y : S52) : Int := orr (Lib.compareInt x.f1 y.f1) (Lib.compareInt x.f0 y.f0)
def rulEnc (x : S52) : List Value := [.int .i64 x.f0, .int .i64 x.f1, .int .i64 x.f2]

theorem or_at (a b : Int) : O.cmp_Or_int.f 4 [a, b] = some (orr a b) := by
  unfold O.cmp_Or_int.f orr
  by_cases ha : a = 0
  · subst ha
    by_cases hb : b = 0
    · subst hb
      simp [O.cmp_Or_int.l0, Go.Proofs.YtpfiecjacpbhkaaW.PrintWords.rd, Go.RowKit.wrap64]
    · simp [O.cmp_Or_int.l0, Go.Proofs.YtpfiecjacpbhkaaW.PrintWords.rd, hb, Go.RowKit.wrap64]
  · simp [O.cmp_Or_int.l0, Go.Proofs.YtpfiecjacpbhkaaW.PrintWords.rd, ha]

theorem two_C (a b : Int) (W1 : World) : Kd.C (Kd.int .i64) (W1.alloc (.cells #[.int .i64 a, .int .i64 b] 3 (0, 0))) (some ⟨W1.heap.size, 0, none⟩) 2 [a, b] := by
  refine ⟨rfl, by omega, fun _ => ⟨_, rfl, fun j p hj => ⟨[.int .i64 p], rfl, rfl, fun i u hu => ?_⟩⟩⟩
  have hi : i = 0 := by
    cases i with
    | zero => rfl
    | succ i => simp at hu
  subst hi
  have eu : u = .int .i64 p := by simpa using hu.symm
  subst eu
  have hb := blk_new W1 (.cells #[.int .i64 a, .int .i64 b] 3 (0, 0))
  show World.cell? _ (Addr.add ⟨W1.heap.size, 0, none⟩ (j * 1 + 0)) = _
  rw [show Addr.add ⟨W1.heap.size, 0, none⟩ (j * 1 + 0) = ⟨W1.heap.size, j, none⟩ from by unfold Addr.add; simp only [Nat.mul_one, Nat.add_zero, Nat.zero_add]; split <;> simp_all, blk_cell hb j]
  match j, hj with
  | 0, hj => simp at hj; subst hj; rfl
  | 1, hj => simp at hj; subst hj; rfl

theorem three_grow (W : World) (X Y Z : Obj) (n : Nat) : ∃ q os', (((W.alloc X).alloc Y).alloc Z).drewN (1 + n) = grow (W.drewN q) os' := by
  refine ⟨1 + n, #[X] ++ #[Y] ++ #[Z], ?_⟩
  rw [alloc_eq_grow, alloc_eq_grow, alloc_eq_grow, grow_grow, grow_grow]
  rfl

set_option maxHeartbeats 8000000 in
set_option maxRecDepth 100000 in
theorem rul_closure (x y : S52) (W : World) : Calls Try.prog 52 #[.agg #[.int .i64 x.f0, .int .i64 x.f1, .int .i64 x.f2], .agg #[.int .i64 y.f0, .int .i64 y.f1, .int .i64 y.f2]] W fun e w' => e = .returned (.int .i64 (rulCmp x y)) ∧ ∃ q os', w' = grow (W.drewN q) os' := by
  have hu := Try.underlying52
  have hu2 := Try.underlying25
  have hcon := fun a b W' => AnyG.cmp_Compare_int Try.laysCompare a b W'
  change ∀ a b W', Calls Try.prog 54 _ _ _ at hcon
  have hor : ∀ a b : Int, Calls Try.prog 53 #[.slice (some ⟨W.heap.size + 1 + 1, 0, none⟩) 2 2] (((W.alloc (.cells #[.int .i64 x.f0, .int .i64 x.f1, .int .i64 x.f2] 52 (0, 0))).alloc (.cells #[.int .i64 y.f0, .int .i64 y.f1, .int .i64 y.f2] 52 (0, 0))).alloc (.cells #[.int .i64 a, .int .i64 b] 3 (0, 0))).drew
      fun e w' => e = .returned (.int .i64 (orr a b)) ∧ ∃ n, w' = (((W.alloc (.cells #[.int .i64 x.f0, .int .i64 x.f1, .int .i64 x.f2] 52 (0, 0))).alloc (.cells #[.int .i64 y.f0, .int .i64 y.f1, .int .i64 y.f2] 52 (0, 0))).alloc (.cells #[.int .i64 a, .int .i64 b] 3 (0, 0))).drew.drewN n := by
    intro a b
    have hC := two_C a b ((W.alloc (.cells #[.int .i64 x.f0, .int .i64 x.f1, .int .i64 x.f2] 52 (0, 0))).alloc (.cells #[.int .i64 y.f0, .int .i64 y.f1, .int .i64 y.f2] 52 (0, 0)))
    have hs : ((W.alloc (.cells #[.int .i64 x.f0, .int .i64 x.f1, .int .i64 x.f2] 52 (0, 0))).alloc (.cells #[.int .i64 y.f0, .int .i64 y.f1, .int .i64 y.f2] 52 (0, 0))).heap.size = W.heap.size + 1 + 1 := by simp
    rw [hs] at hC
    refine (O.cmp_Or_int.calls 4 _ 2 [a, b] (orr a b) _ (Kd.C_drew hC) (Nat.le_refl _) (or_at a b)).mono ?_
    rintro e w' ⟨he, hd⟩
    exact ⟨he, hd.out⟩
  have bx : ((W.alloc (.cells #[.int .i64 x.f0, .int .i64 x.f1, .int .i64 x.f2] 52 (0, 0))).alloc (.cells #[.int .i64 y.f0, .int .i64 y.f1, .int .i64 y.f2] 52 (0, 0))).heap[W.heap.size]? = some (.cells #[.int .i64 x.f0, .int .i64 x.f1, .int .i64 x.f2] 52 (0, 0)) := blk_alloc (blk_new W _) _
  have by_ : ((W.alloc (.cells #[.int .i64 x.f0, .int .i64 x.f1, .int .i64 x.f2] 52 (0, 0))).alloc (.cells #[.int .i64 y.f0, .int .i64 y.f1, .int .i64 y.f2] 52 (0, 0))).heap[W.heap.size + 1]? = some (.cells #[.int .i64 y.f0, .int .i64 y.f1, .int .i64 y.f2] 52 (0, 0)) := by
    have := blk_new (W.alloc (.cells #[.int .i64 x.f0, .int .i64 x.f1, .int .i64 x.f2] 52 (0, 0))) (.cells #[.int .i64 y.f0, .int .i64 y.f1, .int .i64 y.f2] 52 (0, 0))
    simpa using this
  have c0 := (blk_cell bx 0).trans rfl
  have c1 := (blk_cell bx 1).trans rfl
  have c2 := (blk_cell by_ 0).trans rfl
  have c3 := (blk_cell by_ 1).trans rfl
  unfold rulCmp
  go_enter Try.func52, Try.ntmps52
  go_wp2
  go_region_held3 (fun w' => w'.cell? ⟨W.heap.size, 0, none⟩ = some (.int .i64 x.f0) ∧ w'.cell? ⟨W.heap.size, 1, none⟩ = some (.int .i64 x.f1) ∧ w'.cell? ⟨W.heap.size + 1, 0, none⟩ = some (.int .i64 y.f0) ∧ w'.cell? ⟨W.heap.size + 1, 1, none⟩ = some (.int .i64 y.f1)) (first | exact ⟨c0, c1, c2, c3⟩ | go_keep)
    (first | (go_at_call 54; refine (hcon _ _ _).mono ?_; rintro e w' ⟨rfl, rfl⟩) | (go_at_call 53; refine (hor _ _).mono ?_; rintro e w' ⟨rfl, nd, rfl⟩))
  go_wp2
  go_ret
  exact ⟨rfl, three_grow W _ _ _ nd⟩

instance : Inhabited S52 := ⟨z52⟩
theorem rul_lays (blk off size : Nat) (w : World) : CmpLays Try.prog 52 #[] rulEnc 3 rulCmp blk off size w :=
  fun _ _ _ _ x y => rul_closure x y _

def sortR (l : List S52) : List S52 := (Sort.insertionSort (ltOf rulCmp) l.toArray 0 l.length).toList

theorem rul_hlen (n : Nat) (W : World) (h : n ≤ 12) : Calls Try.prog 63 #[.int .u64 n] W fun e w' => (∃ l : Int, e = .returned (.int .i64 l)) ∧ w' = W := by
  have hL := Any.bits_Len (SlLaysF0.n15.bits { Try.laysSortFunc with }) (n : Int) W (by omega) (by omega)
  exact hL.mono fun _ _ ⟨he, hw⟩ => ⟨⟨_, he⟩, hw⟩
theorem rulAgg (w : World) : (isAgg 52).run Try.prog w = .ok true w := by kernel_rfl
theorem rulSize (w : World) : (Go.sizeOf 52).run Try.prog w = .ok 3 w := by kernel_rfl

theorem rul_sort (blk off cap : Nat) (d : Array S52) (w : World) (hH : HoldsK rulEnc 3 w blk off d) (hblk : blk < w.heap.size) (h12 : d.size ≤ 12) :
    Calls Try.prog 51 #[.slice (some ⟨blk, off, none⟩) d.size cap, .func (.func 52) #[] #[]] w fun e w' => e = .returned (.tuple #[]) ∧ ∃ n os, w' = sortWorldK rulEnc 3 w blk off n (Sort.insertionSort (ltOf rulCmp) d 0 d.size) os := by
  have eg : ∀ args w, (callFunc 52 args).run Try.prog w = .ok (.enter 52 args) w := enters_of Try.func52 (by kernel_rfl) rfl
  exact AnyQ.slices_SortFunc_small Try.laysSortFunc 3 rulAgg rulSize rulEnc (fun _ => rfl) (fun x v hv => by simp [rulEnc] at hv; rcases hv with rfl | rfl | rfl <;> rfl) rulCmp 52 #[] blk off cap d w eg (rul_lays blk off d.size w) hH hblk h12 rul_hlen

/-! ### as_ a row of the call's own -/
theorem flat_win (r : List S52) (j i : Nat) (p : S52) (hj : r[j]? = some p) (hi : i < 3) : (flatK rulEnc 3 r.toArray)[j * 3 + i]! = (rulEnc p)[i]! := by
  obtain ⟨hl, hp⟩ := List.getElem?_eq_some_iff.1 hj
  rw [get_flatK rulEnc 3 r.toArray (j * 3 + i) (by simp; omega), show (j * 3 + i) / 3 = j by omega, show (j * 3 + i) % 3 = i by omega]
  congr 1
  rw [getElem!_pos r.toArray j (by simpa using hl)]
  simpa using congrArg rulEnc hp

theorem flat_reps (w : World) (base : Nat) (ok : Nat → Prop) (r : List S52) : Reps (k52.M w base ok) 3 r (flatK rulEnc 3 r.toArray).toList := by
  refine ⟨by simp, fun j p hj => ?_⟩
  obtain ⟨hl, _⟩ := List.getElem?_eq_some_iff.1 hj
  have e : ((flatK rulEnc 3 r.toArray).toList.drop (j * 3)).take 3 = rulEnc p := by
    apply List.ext_getElem?
    intro i
    by_cases hi : i < 3
    · have hs : j * 3 + i < (flatK rulEnc 3 r.toArray).size := by simp; omega
      rw [List.getElem?_take_of_lt hi, List.getElem?_drop, Array.getElem?_toList, Array.getElem?_eq_getElem hs]
      have h2 := flat_win r j i p hj hi
      rw [getElem!_pos (flatK rulEnc 3 r.toArray) (j * 3 + i) hs] at h2
      rw [h2]
      match i, hi with
      | 0, _ => rfl
      | 1, _ => rfl
      | 2, _ => rfl
    · rw [List.getElem?_eq_none (by simp; omega), List.getElem?_eq_none (by simp [rulEnc]; omega)]
  rw [e]
  exact k52_mkM w base ok p

theorem reps_flat {w : World} {base : Nat} {ok : Nat → Prop} {l : List S52} {inner : List Value} (h : Reps (k52.M w base ok) 3 l inner) : inner = (flatK rulEnc 3 l.toArray).toList := by
  apply List.ext_getElem?
  intro t
  by_cases ht : t < l.length * 3
  · have hq : t / 3 < l.length := by omega
    have hj : l[t / 3]? = some l[t / 3] := List.getElem?_eq_getElem hq
    have hw := k52_openM (h.2 (t / 3) _ hj)
    have hs : t < (flatK rulEnc 3 l.toArray).size := by simpa using ht
    have h2 := flat_win l (t / 3) (t % 3) _ hj (by omega)
    rw [show t / 3 * 3 + t % 3 = t by omega, getElem!_pos (flatK rulEnc 3 l.toArray) t hs] at h2
    have h5 : (flatK rulEnc 3 l.toArray).toList[t]? = some ((rulEnc l[t / 3])[t % 3]!) := by rw [Array.getElem?_toList, Array.getElem?_eq_getElem hs, h2]
    rw [h5]
    have h3 : inner[t]? = ((inner.drop (t / 3 * 3)).take 3)[t % 3]? := by
      rw [List.getElem?_take_of_lt (by omega), List.getElem?_drop, show t / 3 * 3 + t % 3 = t by omega]
    rw [h3, hw]
    have hm : t % 3 < 3 := by omega
    generalize t % 3 = m at hm ⊢
    match m, hm with
    | 0, _ => rfl
    | 1, _ => rfl
    | 2, _ => rfl
  · rw [List.getElem?_eq_none (by rw [h.1]; omega), List.getElem?_eq_none (by simp; omega)]

theorem rul_lt (x y : S52) : ltOf rulCmp x y = decide (x.f1 < y.f1 ∨ x.f1 = y.f1 ∧ x.f0 < y.f0) := by
  unfold ltOf rulCmp orr Lib.compareInt
  by_cases h1 : x.f1 < y.f1
  · simp [h1]
  · by_cases h2 : x.f1 > y.f1
    · simp [h1, h2]
      omega
    · have e : x.f1 = y.f1 := by omega
      by_cases h3 : x.f0 < y.f0
      · simp [e, h3]
      · by_cases h4 : x.f0 > y.f0
        · simp [e, h3, h4]
        · simp [e, h3, h4]
theorem rul_swo : SWO (ltOf rulCmp) where
  irrefl x := by rw [rul_lt]; simp
  trans x y z h1 h2 := by
    rw [rul_lt] at h1 h2 ⊢
    simp only [decide_eq_true_eq] at h1 h2 ⊢
    omega
  ntrans x y z h1 h2 := by
    rw [rul_lt] at h1 h2 ⊢
    simp only [decide_eq_false_iff_not] at h1 h2 ⊢
    omega

theorem ins_size (l : List S52) : (sortR l).length = l.length := by
  have h := (insertionSort_holds (lt := ltOf rulCmp) rul_swo l.toArray 0 l.length (Nat.zero_le _) (by simp)).1.1
  unfold sortR
  simpa using h

def sortRulings.f (l0 : List S52) : Option (List S52) := if l0.length ≤ 12 then some (sortR l0) else none
theorem sortRulings.calls (P0_ : Nat → Prop) (u9000_ : Value) (l0 : List S52) (r : List S52) (w0 w : World) (hB : Below w0.heap.size w0 w) (ho0 : Kd.R k52 52 w w0.heap.size P0_ u9000_ l0) (h : sortRulings.f l0 = some r) :
    Calls Try.prog 51 #[u9000_, .func (.func 52) #[] #[]] w fun e w' => e = .returned (.tuple #[]) ∧ Kd.R k52 52 w' w0.heap.size (fun k_ => (P0_ k_ ∨ w.heap.size ≤ k_)) u9000_ r ∧ Below w0.heap.size w0 w' ∧ Kept w w' (fun k_ => P0_ k_) := by
  unfold sortRulings.f at h
  have hlen : l0.length ≤ 12 := by
    by_cases hl : l0.length ≤ 12
    · exact hl
    · rw [if_neg hl] at h; cases h
  rw [if_pos hlen] at h
  obtain rfl := Option.some.inj h
  clear h
  obtain ⟨hok, inner, ho, hrep⟩ := ho0
  have hin := reps_flat hrep
  have hil : inner.length = l0.length * 3 := hrep.1
  rcases ho.2 with ⟨rfl, hz⟩ | ⟨g, cap, cur, rfl, hbase, hb, h1, h2, h3, h4⟩
  · have e0 : l0 = [] := by
      cases l0 with
      | nil => rfl
      | cons x xs => simp at hz
    subst e0
    have hc := AnyF.slices_SortFunc_none Try.laysSortFunc none 0 (.func (.func 52) #[] #[]) w
    change Calls Try.prog 51 _ _ _ at hc
    refine hc.mono ?_
    rintro e w' ⟨rfl, hw⟩
    subst hw
    have e0 : sortR ([] : List S52) = [] := List.eq_nil_of_length_eq_zero (ins_size [])
    rw [e0]
    exact ⟨rfl, ⟨fun k hk => by simp [Value.ownBlock] at hk, [], ⟨rfl, .inl ⟨rfl, rfl⟩⟩, Reps.none _ _⟩, hB, Kept.refl _ _⟩
  · have hg : g < w.heap.size := (Array.getElem?_eq_some_iff.1 hb).1
    have hF : cur.toList.take (l0.length * 3) = (flatK rulEnc 3 l0.toArray).toList := by rw [← hin]; exact h4
    have hH : HoldsK rulEnc 3 w g 0 l0.toArray := by
      intro j hj
      have hj' : j < l0.length * 3 := by simpa using hj
      refine ⟨?_, by simp [World.frozen?, hb]⟩
      have e1 : (cur.toList.take (l0.length * 3))[j]? = (flatK rulEnc 3 l0.toArray).toList[j]? := by rw [hF]
      rw [List.getElem?_take_of_lt hj'] at e1
      simp only [World.cell?, hb, Nat.zero_add]
      simp only [Option.isSome_none, Bool.false_eq_true, if_false]
      rw [← Array.getElem?_toList, e1, Array.getElem?_toList, Array.getElem?_eq_getElem hj, getElem!_pos (flatK rulEnc 3 l0.toArray) j hj]
      rfl
    have hc := rul_sort g 0 cap l0.toArray w hH hg (by simpa using hlen)
    rw [List.size_toArray] at hc
    refine hc.mono ?_
    rintro e w' ⟨rfl, nn, os, rfl⟩
    have hs : (sortR l0).length = l0.length := ins_size l0
    have eS : Sort.insertionSort (ltOf rulCmp) l0.toArray 0 l0.length = (sortR l0).toArray := by unfold sortR; simp
    rw [eS]
    generalize hF' : flatK rulEnc 3 (sortR l0).toArray = F at *
    have hFs : F.size = l0.length * 3 := by rw [← hF']; simp [hs]
    have eW : sortWorldK rulEnc 3 w g 0 nn (sortR l0).toArray os = grow (putRow id (Sort.ahead w nn) g 0 F) os := by rw [← hF']; rfl
    rw [eW]
    have hheap : (grow (putRow id (Sort.ahead w nn) g 0 F) os).heap[g]? = some (.cells (putCells id 0 F cur) 52 (0, 0)) := by
      rw [heap_grow_old _ _ (by simpa using hg)]
      simp [putRow, mapBlock, Sort.ahead, Array.getElem?_modify, hb, onCells]
    have hgr : w.grownBy (grow (putRow id (Sort.ahead w nn) g 0 F) os) (some g) := by
      refine ⟨rfl, rfl, rfl, by simp, fun k hk hne => ?_⟩
      rw [heap_grow_old _ _ (by simpa using hk)]
      have : g ≠ k := fun e => hne (by rw [e])
      simp [putRow, mapBlock, Sort.ahead, Array.getElem?_modify, this]
    have h3' : cur.size = cap * 3 := h3
    have htake : (putCells id 0 F cur).toList.take (l0.length * 3) = F.toList := by
      apply List.ext_getElem?
      intro j
      by_cases hj : j < l0.length * 3
      · have hjF : j < F.size := by omega
        have hjc : j < cur.size := by omega
        rw [List.getElem?_take_of_lt hj, Array.getElem?_toList, Array.getElem?_toList]
        simp [putCells, hjF, hjc]
      · rw [List.getElem?_take_eq_none (by omega), List.getElem?_eq_none (by simp; omega)]
    refine ⟨rfl, ⟨fun k hk => .inl (hok k hk), F.toList, ⟨(show F.toList.length = (sortR l0).length * 3 by simp [hFs, hs]), .inr ⟨g, cap, _, by rw [hs], hbase, hheap, by omega, h2, (show (putCells id 0 F cur).size = cap * 3 by simp [putCells, h3']), (show (putCells id 0 F cur).toList.take ((sortR l0).length * 3) = F.toList by rw [hs]; exact htake)⟩⟩, ?_⟩, hB.grown hgr hB.size (fun k hk => by cases hk; exact hbase), Kept.of_grown hgr (Kept.refl _ _) (fun k hk => by cases hk; exact .inl (hok g rfl))⟩
    have := flat_reps (grow (putRow id (Sort.ahead w nn) g 0 F) os) w0.heap.size (fun k => (P0_ k ∨ w.heap.size ≤ k) ∧ some k ≠ (Value.slice (some ⟨g, 0, none⟩) l0.length cap).ownBlock) (sortR l0)
    rw [hF'] at this
    exact this
end Go.Proofs.Ytpfiecjacpbhkaa.D

/- What the Go functions named below come to, each told as_ a Lean function ('.f'), with the proof ('.calls'): no condition beyond those that each theorem states. Written by a program of this session's over the translation. -/
namespace Go.Proofs.Ytpfiecjacpbhkaa.D
open Go.RowKit Go.Proofs.YtpfiecjacpbhkaaW.PrintWords Go.Proofs.YtpfiecjacpbhkaaW.PrintLast Go.Proofs.YtpfiecjacpbhkaaW.PrintMore
attribute [local go_sem] max2_int min2_int max_two min_two max_three min_three max_four min_four   -- for this text's walks alone
set_option linter.unusedVariables false
set_option linter.unusedSimpArgs false

/-! ### docket_advance: function 32 -/
def docket_advance.l0 : Nat → Int → List (S52) → Int → Int → Int → Int → Int → List Int → List (S50) → Option (Int × Int × Int × List Int × (List (S50)) × (List (S52)))
 | 0, _, _, _, _, _, _, _, _, _ => none
 | k + 1, x1, x7, x20, x21, x133000, x133001, x133002, x133003, x133004 => if x21 < x20 then (if 0 ≤ x21 then (if x21 < (x133004.length : Int) then ((docket_running.f ((rd_T50 x133004 x21).f0) ((rd_T50 x133004 x21).f1) ((rd_T50 x133004 x21).f2) ((rd_T50 x133004 x21).f3) ((rd_T50 x133004 x21).f4)).bind fun t135 => (if t135 = true then (if ((rd_T50 x133004 x21).f2) ≥ x1 then (docket_advance.l0 k x1 x7 x20 (wrap64 (x21 + 1)) x133000 x133001 x133002 x133003 x133004) else (if x7.length < 5864062014805 then ((some (x133004.set (x21 : Int).toNat (⟨(rd_T50 x133004 x21).f0, (rd_T50 x133004 x21).f1, (rd_T50 x133004 x21).f2, (rd_T50 x133004 x21).f3, (((rd_T50 x133004 x21).f1) == 2)⟩ : S50) : List (S50))).bind fun y144 => ((some (y144.set (x21 : Int).toNat (⟨(rd_T50 y144 x21).f0, 6, (rd_T50 y144 x21).f2, (rd_T50 y144 x21).f3, (rd_T50 y144 x21).f4⟩ : S50) : List (S50))).bind fun y145 => (docket_advance.l0 k x1 (x7 ++ [(⟨(rd_T50 x133004 x21).f0, wrap64 (((rd_T50 x133004 x21).f2) + 1), (rd_T50 x133004 x21).f3⟩ : S52)]) x20 (wrap64 (x21 + 1)) x133000 x133001 x133002 x133003 (y145.set (x21 : Int).toNat (⟨(rd_T50 y145 x21).f0, (rd_T50 y145 x21).f1, 0, (rd_T50 y145 x21).f3, (rd_T50 y145 x21).f4⟩ : S50))))) else (none))) else (docket_advance.l0 k x1 x7 x20 (wrap64 (x21 + 1)) x133000 x133001 x133002 x133003 x133004))) else (none)) else (none)) else ((sortRulings.f x7).bind fun t147 => (some (x133000, x133001, x133002, x133003, x133004, t147)))
def docket_advance.f (k : Nat) (a0_0 : Int) (a0_1 : Int) (a0_2 : Int) (l0_3 : List Int) (l0_4 : List (S50)) (a1 : Int) : Option (Int × Int × Int × List Int × (List (S50)) × (List (S52))) := (docket_copyTerms.f a0_1 a0_2 l0_3).bind fun bt124 => ((cloneMatters.f l0_4).bind fun t129 => (docket_advance.l0 k a1 ([] : List (S52)) (t129.length : Int) 0 a1 bt124.1 bt124.2.1 bt124.2.2 t129))
theorem docket_advance.mono_l : ∀ k, (∀ y0 y1 y2 y3 y4 y5 y6 y7 y8, LeO (docket_advance.l0 k y0 y1 y2 y3 y4 y5 y6 y7 y8) (docket_advance.l0 (k + 1) y0 y1 y2 y3 y4 y5 y6 y7 y8))
 | 0 => fun _ _ _ _ _ _ _ _ _ r h => by simp [docket_advance.l0] at h
 | k + 1 => by
  have ih0 := docket_advance.mono_l k
  ·intro y0 y1 y2 y3 y4 y5 y6 y7 y8
   unfold docket_advance.l0
   repeat' first
   | (with_reducible exact ih0 _ _ _ _ _ _ _ _ _)
   | (with_reducible exact LeO.refl _)
   | (with_reducible exact LeO.none _)
   | (with_reducible refine LeO.ite ?_ ?_)
   | (with_reducible refine LeO.bind ?_ (fun _ => ?_))
   | exact ih0 _ _ _ _ _ _ _ _ _
   | exact LeO.none _
   | refine LeO.ite ?_ ?_
   | refine LeO.bind ?_ (fun _ => ?_)
theorem docket_advance.mono : ∀ a0 a1 a2 a3 a4 a5 k, LeO (docket_advance.f k a0 a1 a2 a3 a4 a5) (docket_advance.f (k + 1) a0 a1 a2 a3 a4 a5) := by
 intro a0 a1 a2 a3 a4 a5 k
 have ih0 := docket_advance.mono_l k
 unfold docket_advance.f
 repeat' first
   | (with_reducible exact ih0 _ _ _ _ _ _ _ _ _)
   | (with_reducible exact LeO.refl _)
   | (with_reducible exact LeO.none _)
   | (with_reducible refine LeO.ite ?_ ?_)
   | (with_reducible refine LeO.bind ?_ (fun _ => ?_))
   | exact ih0 _ _ _ _ _ _ _ _ _
   | exact LeO.none _
   | refine LeO.ite ?_ ?_
   | refine LeO.bind ?_ (fun _ => ?_)
def docket_advance.T1 : Bool × List (List Nat × List Nat) := (true, [([], []), ([], []), ([1], [1]), ([2], [2]), ([], []), ([4], [4]), ([5, 3], [5]), ([0, 3, 6], [0, 3, 6]), ([], []), ([8, 7, 6, 0, 1, 2, 3, 4, 5, 6, 7, 8], [7, 8])])
def docket_advance.B1 : List Nat := [0, 0, 2, 6, 0, 16, 62, 127, 0, 511]
theorem docket_advance.tab1 : rtab .any (opsOf Try.f32 1) = docket_advance.T1 := by kernel_rfl
theorem docket_advance.bits1 : waitsOk docket_advance.T1.2 docket_advance.B1 = true := by kernel_rfl
def docket_advance.T8 : Bool × List (List Nat × List Nat) := (true, [([], []), ([], []), ([1], [1]), ([2], [2]), ([3], [3]), ([], []), ([5], [5]), ([6], [6]), ([7], [7]), ([8], [8]), ([], []), ([10], [10]), ([11], [11]), ([12], [12]), ([4, 9, 13], [4, 9, 13]), ([14], [14]), ([0, 15], [0, 15]), ([16, 16, 0, 1, 2, 3, 4, 5, 6, 7, 8, 9, 10, 11, 12, 13, 14, 15, 16], [0, 16])])
def docket_advance.B8 : List Nat := [0, 0, 2, 6, 14, 0, 32, 96, 224, 480, 0, 1024, 3072, 7168, 16382, 32766, 65535, 131071]
theorem docket_advance.tab8 : rtab .any (opsOf Try.f32 8) = docket_advance.T8 := by kernel_rfl
theorem docket_advance.bits8 : waitsOk docket_advance.T8.2 docket_advance.B8 = true := by kernel_rfl
set_option maxHeartbeats 8000000 in
set_option maxRecDepth 100000 in
theorem docket_advance.calls (k : Nat) (a0_0 : Int) (a0_1 : Int) (a0_2 : Int) (A0_3 : Option Addr) (c0_3 : Nat) (l0_3 : List Int) (A0_4 : Option Addr) (c0_4 : Nat) (l0_4 : List (S50)) (a1 : Int) (r1 : Int) (r2 : Int) (r3 : Int) (r4 : List Int) (r5 : List (S50)) (r6 : List (S52)) (w : World) (hr0_3 : Kd.C (Kd.int .i64) w A0_3 l0_3.length l0_3) (hc0_3 : l0_3.length ≤ c0_3) (hr0_4 : Kd.C k50 w A0_4 l0_4.length l0_4) (hc0_4 : l0_4.length ≤ c0_4) (h : docket_advance.f k a0_0 a0_1 a0_2 l0_3 l0_4 a1 = some (r1, r2, r3, r4, r5, r6)) :
  Calls Try.prog 32 #[.agg #[.int .i64 a0_0, .int .i64 a0_1, .int .i64 a0_2, .slice A0_3 l0_3.length c0_3, .slice A0_4 l0_4.length c0_4], .int .i64 a1] w fun e w' => ∃ v3_ v4_ v5_ : Value, e = .returned (.tuple #[.agg #[.int .i64 r1, .int .i64 r2, .int .i64 r3, v3_, v4_], v5_]) ∧ Kd.R (Kd.int .i64) 3 w' w.heap.size (fun _ => True) v3_ r4 ∧ Kd.R k50 50 w' w.heap.size (fun _ => True) v4_ r5 ∧ Kd.R k52 52 w' w.heap.size (fun _ => True) v5_ r6 ∧ Below w.heap.size w w' := by
 have hu30 := Try.underlying30
 have hu27 := Try.underlying27
 have hu50 := Try.underlying50
 have hu52 := Try.underlying52
 have HR0_3 := Aside0.mk hr0_3
 have HC0_3 := Aside0.mk hc0_3
 clear hr0_3 hc0_3
 have HR0_4 := Aside0.mk hr0_4
 have HC0_4 := Aside0.mk hc0_4
 clear hr0_4 hc0_4
 have HB := Aside0.mk (Below.refl w.heap.size w)
 have H : ((docket_copyTerms.f a0_1 a0_2 l0_3).bind fun bt124 => ((cloneMatters.f l0_4).bind fun t129 => (docket_advance.l0 k a1 ([] : List (S52)) (t129.length : Int) 0 a1 bt124.1 bt124.2.1 bt124.2.2 t129))) = some (r1, r2, r3, r4, r5, r6) := h
 clear h
 replace H := Option.bind_eq_some_iff.mp H
 obtain ⟨⟨t124, t125, t126⟩, A30, H⟩ := H
 replace H : ((cloneMatters.f l0_4).bind fun t129 => (docket_advance.l0 k a1 ([] : List (S52)) (t129.length : Int) 0 a1 t124 t125 t126 t129)) = some (r1, r2, r3, r4, r5, r6) := H
 have A3 := Aside0.mk A30
 clear A30
 replace H := Option.bind_eq_some_iff.mp H
 obtain ⟨t129, A40, H⟩ := H
 replace H : (docket_advance.l0 k a1 ([] : List (S52)) (t129.length : Int) 0 a1 t124 t125 t126 t129) = some (r1, r2, r3, r4, r5, r6) := H
 have A4 := Aside0.mk A40
 clear A40
 have H' := Aside0.mk H
 clear H
 go_enter Try.func32, Try.ntmps32
 try go_wp2_with (first | ((with_reducible refine gate_dst (N := 2) rfl ?_); refine box_event ?hg (N := 2) ?hd (cs := #[.int .i64 a0_0, .int .i64 a0_1, .int .i64 a0_2, .slice A0_3 l0_3.length c0_3, .slice A0_4 l0_4.length c0_4]) (t := 30) ?hr ?_; (case hd => rfl); (case hg => rfl); (case hr => first | (go_simp; done) | (go_simp; rfl)); intro gb122 hg w5 hbox hb; have n0_ := Aside0.mk (below_step (pB HB) hb); have n1_ := Aside0.mk (hbox); have n2_ := Aside0.mk ((by rw [hg]; exact (below_size (pB HB)) : w.heap.size ≤ gb122)); have n3_ := Aside0.mk ((by rw [hg]; exact (below_size (pB HB)) : w.heap.size ≤ gb122)); clear HB; have HB := n0_; have BK122 := n1_; have GW122 := n2_; have GE122 := n3_; clear n0_ n1_ n2_ n3_; clear hb hbox hg) | ((with_reducible refine gate_dst (N := 4) rfl ?_); refine box_event ?hg (N := 4) ?hd (cs := #[.int .i64 0, .int .i64 0, .int .i64 0, .slice none 0 0, .slice none 0 0]) (t := 30) ?hr ?_; (case hd => rfl); (case hg => rfl); (case hr => first | (go_simp; done) | (go_simp; rfl)); intro gb123 hg w6 hbox hb; have n0_ := bB BK122 hb; have n1_ := Aside0.mk (below_step (pB HB) hb); have n2_ := Aside0.mk (hbox); have n3_ := Aside0.mk ((by rw [hg]; exact (below_size (pB HB)) : w.heap.size ≤ gb123)); have n4_ := Aside0.mk ((by rw [hg]; exact (below_size (pB HB)) : w.heap.size ≤ gb123)); have n5_ := Aside0.mk ((by rw [hg]; exact Nat.ne_of_lt (blk_lt (g := gb122) (o := .cells #[.int .i64 a0_0, .int .i64 a0_1, .int .i64 a0_2, .slice A0_3 l0_3.length c0_3, .slice A0_4 l0_4.length c0_4] 30 (0, 0)) (by (with_reducible repeat (first | refine blk_drewN ?_ _ | refine blk_drew ?_ | refine blk_alloc ?_ _)); exact BK122.out)) : gb122 ≠ gb123)); have n6_ := Aside0.mk ((by rw [hg]; exact Nat.ne_of_gt (blk_lt (g := gb122) (o := .cells #[.int .i64 a0_0, .int .i64 a0_1, .int .i64 a0_2, .slice A0_3 l0_3.length c0_3, .slice A0_4 l0_4.length c0_4] 30 (0, 0)) (by (with_reducible repeat (first | refine blk_drewN ?_ _ | refine blk_drew ?_ | refine blk_alloc ?_ _)); exact BK122.out)) : gb123 ≠ gb122)); clear BK122; clear HB; have BK122 := n0_; have HB := n1_; have BK123 := n2_; have GW123 := n3_; have GE123 := n4_; have NB122_123 := n5_; have NB123_122 := n6_; clear n0_ n1_ n2_ n3_ n4_ n5_ n6_; clear hb hbox hg))
 have n0_ := Aside0.mk (blk_drew BK122.out)
 have n1_ := Aside0.mk (blk_drew BK123.out)
 have n2_ := Aside0.mk (below_drew1 HB.out)
 clear BK122
 clear BK123
 clear HB
 have BK122 := n0_
 have BK123 := n1_
 have HB := n2_
 clear n0_ n1_ n2_
 refine start_ (n := 10) (S := fun w' => w'.cell? ⟨gb122, 0, none⟩ = some (.int .i64 a0_0) ∧ w'.cell? ⟨gb122, 1, none⟩ = some (.int .i64 a0_1) ∧ w'.cell? ⟨gb122, 2, none⟩ = some (.int .i64 a0_2) ∧ w'.cell? ⟨gb122, 3, none⟩ = some (.slice A0_3 l0_3.length c0_3) ∧ w'.cell? ⟨gb122, 4, none⟩ = some (.slice A0_4 l0_4.length c0_4)) (ds := []) #[false, false, false, false, false, false, false, false, false, false] (by kernel_rfl) rfl rfl ⟨(blk_cell BK122.out 0).trans rfl, (blk_cell BK122.out 1).trans rfl, (blk_cell BK122.out 2).trans rfl, (blk_cell BK122.out 3).trans rfl, (blk_cell BK122.out 4).trans rfl⟩ (fun hHeld => ?_); refine with_tabW docket_advance.tab1 docket_advance.bits1 (fun HT_ HW_ => ?_)
 generalize w6.drew = w7 at BK122 BK123 HB hHeld ⊢
 refine pure_ (i := 0) (N := some 10) (v := ?_) (a' := ?_) #[true, false, false, false, false, false, false, false, false, false] rfl rfl (any_of HT_.out (by kernel_rfl)) (fun _ _ _ h => h) (Or.inl ⟨by rfl, ?_⟩) ?_ ?_
 rotate_left
 ·intro w'
  go_simp
  with_reducible rfl
 rotate_left
 ·simp only [Act.put, List.setIfInBounds_toArray, List.set_cons_zero, List.set_cons_succ, i64_w, i32_w]
  rfl
 refine pure_ (i := 1) (N := some 11) (v := ?_) (a' := ?_) #[true, true, false, false, false, false, false, false, false, false] rfl rfl (any_of HT_.out (by kernel_rfl)) (fun _ _ _ h => h) (Or.inl ⟨by rfl, ?_⟩) ?_ ?_
 rotate_left
 ·intro w'
  go_simp
  with_reducible rfl
 rotate_left
 ·simp only [Act.put, List.setIfInBounds_toArray, List.set_cons_zero, List.set_cons_succ, i64_w, i32_w]
  rfl
 refine pure_ (i := 4) (N := some 14) (v := ?_) (a' := ?_) #[true, true, false, false, true, false, false, false, false, false] rfl rfl (any_of HT_.out (by kernel_rfl)) (fun _ _ _ h => h) (Or.inl ⟨by rfl, ?_⟩) ?_ ?_
 rotate_left
 ·intro w'
  go_simp
  with_reducible rfl
 rotate_left
 ·simp only [Act.put, List.setIfInBounds_toArray, List.set_cons_zero, List.set_cons_succ, i64_w, i32_w]
  rfl
 refine take_ (i := 2) (N := some 12) (v := ?_) (a' := ?_) #[true, true, true, false, true, false, false, false, false, false] rfl rfl (take_ofW HT_.out HW_.out (by kernel_rfl)) (fun _ _ _ h => h) (Or.inl ⟨by rfl, ?_⟩) hHeld ?_ ?_
 rotate_left
 ·rintro w' ⟨s0, s1, s2, s3, s4⟩
  go_simp
  with_reducible rfl
 rotate_left
 ·simp only [Act.put, List.setIfInBounds_toArray, List.set_cons_zero, List.set_cons_succ, i64_w, i32_w]
  rfl
 refine take_ (i := 5) (N := some 15) (v := ?_) (a' := ?_) #[true, true, true, false, true, true, false, false, false, false] rfl rfl (take_ofW HT_.out HW_.out (by kernel_rfl)) (fun _ _ _ h => h) (Or.inl ⟨by rfl, ?_⟩) hHeld ?_ ?_
 rotate_left
 ·rintro w' ⟨s0, s1, s2, s3, s4⟩
  go_simp
  with_reducible rfl
 rotate_left
 ·simp only [Act.put, List.setIfInBounds_toArray, List.set_cons_zero, List.set_cons_succ, i64_w, i32_w]
  rfl
 refine join_ (σ := Value × Value × Nat) 1 #[true, true, true, true, true, true, true, true, true, false] (fun s_ => [(13, .agg #[.int .i64 t124, .int .i64 t125, s_.1]), (16, s_.2.1), (6, .pointer (some ⟨s_.2.2, 0, none⟩)), (17, .agg #[.int .i64 a1, .int .i64 t124, .int .i64 t125, s_.1, s_.2.1])]) (fun s_ w' => (w'.cell? ⟨gb122, 0, none⟩ = some (.int .i64 a0_0) ∧ w'.cell? ⟨gb122, 1, none⟩ = some (.int .i64 a0_1) ∧ w'.cell? ⟨gb122, 2, none⟩ = some (.int .i64 a0_2) ∧ w'.cell? ⟨gb122, 3, none⟩ = some (.slice A0_3 l0_3.length c0_3) ∧ w'.cell? ⟨gb122, 4, none⟩ = some (.slice A0_4 l0_4.length c0_4)) ∧ (Kd.R (Kd.int .i64) 3 w' w.heap.size (fun _ => True) s_.1 t126) ∧ (Kd.R k50 50 w' w.heap.size (fun _ => True) s_.2.1 t129) ∧ (w'.heap[gb122]? = some (.cells #[.int .i64 a0_0, .int .i64 a0_1, .int .i64 a0_2, .slice A0_3 l0_3.length c0_3, .slice A0_4 l0_4.length c0_4] 30 (0, 0))) ∧ (w'.heap[gb123]? = some (.cells #[.int .i64 0, .int .i64 0, .int .i64 0, .slice none 0 0, .slice none 0 0] 30 (0, 0))) ∧ (w'.heap[s_.2.2]? = some (.cells #[.int .i64 0, .int .i64 0, .int .i64 0, .slice none 0 0, .slice none 0 0] 30 (0, 0))) ∧ (w.heap.size ≤ s_.2.2) ∧ (w.heap.size ≤ s_.2.2) ∧ (gb122 ≠ s_.2.2) ∧ (s_.2.2 ≠ gb122) ∧ (gb123 ≠ s_.2.2) ∧ (s_.2.2 ≠ gb123) ∧ (Below w.heap.size w w')) ?_ ?_
 rotate_left
 ·intro hCont
  refine two_ (i := 3) (j := 8) (Ni := some 13) (Nj := some 6) #[true, true, true, true, true, true, false, false, false, false] #[true, true, true, false, true, true, false, false, true, false] rfl rfl rfl rfl (two_of HT_.out (by kernel_rfl)) (by decide) (by decide) (fun K hK => ?_) (fun K hK => ?_)
  ·skip
   refine goes_ Try.func35 (by kernel_rfl) rfl #[.agg #[.int .i64 a0_1, .int .i64 a0_2, .slice A0_3 l0_3.length c0_3]] (by rfl) rfl rfl (by (try simp only [List.map_toArray, List.map_cons, List.map_nil]); first | done | rfl | (simp only [List.length_drop, List.length_take]; rfl)) ?_
   with_reducible refine (docket_copyTerms.calls a0_1 a0_2 _ _ l0_3 t124 t125 t126 _ ?side1 ?side2 A3.out).mono ?_
   (case side1 => repeat (first | exact (Kd.C_below HR0_3.out HB.out) | (with_reducible refine Kd.C_alloc ?_ _) | (with_reducible refine Kd.C_drewN ?_ _) | (with_reducible refine Kd.C_drew ?_)))
   (case side2 => exact HC0_3.out)
   rintro e w8 ⟨v127, rfl, ho0, hb⟩
   refine ⟨_, rfl, ?_⟩
   have n0_ := Aside0.mk (Kd.R_lower ho0 (below_size (pB HB)))
   have n1_ := bB BK122 hb
   have n2_ := bB BK123 hb
   have n3_ := Aside0.mk (below_step (pB HB) hb)
   clear BK122
   clear BK123
   clear HB
   have HO128 := n0_
   have BK122 := n1_
   have BK123 := n2_
   have HB := n3_
   clear n0_ n1_ n2_ n3_
   (try clear hb)
   (try clear hb2)
   (try clear hk)
   (try clear hi)
   (try clear ho0)
   refine hK.out _ _ ⟨(blk_cell BK122.out 0).trans rfl, (blk_cell BK122.out 1).trans rfl, (blk_cell BK122.out 2).trans rfl, (blk_cell BK122.out 3).trans rfl, (blk_cell BK122.out 4).trans rfl⟩ (fun hHeld => ?_)
   clear hK K
   refine norm_ (a' := ?_) ?_ ?_
   rotate_left
   ·show Act.put _ (some 13) _ = _
    simp only [Act.put, List.setIfInBounds_toArray, List.set_cons_zero, List.set_cons_succ, i64_w, i32_w]
    rfl
   refine two_ (i := 6) (j := 8) (Ni := some 16) (Nj := some 6) #[true, true, true, true, true, true, true, false, false, false] #[true, true, true, true, true, true, false, false, true, false] rfl rfl rfl rfl (two_of HT_.out (by kernel_rfl)) (by decide) (by decide) (fun K hK => ?_) (fun K hK => ?_)
   ·skip
    refine goes_ Try.func50 (by kernel_rfl) rfl #[.slice A0_4 l0_4.length c0_4] (by rfl) rfl rfl (by (try simp only [List.map_toArray, List.map_cons, List.map_nil]); first | done | rfl | (simp only [List.length_drop, List.length_take]; rfl)) ?_
    with_reducible refine (cloneMatters.calls _ _ l0_4 t129 _ ?side1 ?side2 A4.out).mono ?_
    (case side1 => repeat (first | exact (Kd.C_below HR0_4.out HB.out) | (with_reducible refine Kd.C_alloc ?_ _) | (with_reducible refine Kd.C_drewN ?_ _) | (with_reducible refine Kd.C_drew ?_)))
    (case side2 => exact HC0_4.out)
    rintro e w9 ⟨v130, rfl, ho0, hb⟩
    refine ⟨_, rfl, ?_⟩
    have n0_ := rB HO128 hb
    have n1_ := Aside0.mk (Kd.R_lower ho0 (below_size (pB HB)))
    have n2_ := bB BK122 hb
    have n3_ := bB BK123 hb
    have n4_ := Aside0.mk (below_step (pB HB) hb)
    clear HO128
    clear BK122
    clear BK123
    clear HB
    have HO128 := n0_
    have HO131 := n1_
    have BK122 := n2_
    have BK123 := n3_
    have HB := n4_
    clear n0_ n1_ n2_ n3_ n4_
    (try clear hb)
    (try clear hb2)
    (try clear hk)
    (try clear hi)
    (try clear ho0)
    obtain ⟨Ao10, co10, eo10⟩ := Kd.R_slice HO131.out
    (first | subst eo10 | (injection eo10 with f1_ f2_ f3_; have f4_ := f1_.symm; have f5_ := f3_.symm; clear f1_ f2_ f3_; subst f4_; subst f5_))
    obtain ⟨Ao11, co11, eo11⟩ := Kd.R_slice HO128.out
    (first | subst eo11 | (injection eo11 with f1_ f2_ f3_; have f4_ := f1_.symm; have f5_ := f3_.symm; clear f1_ f2_ f3_; subst f4_; subst f5_))
    refine hK.out _ _ ⟨(blk_cell BK122.out 0).trans rfl, (blk_cell BK122.out 1).trans rfl, (blk_cell BK122.out 2).trans rfl, (blk_cell BK122.out 3).trans rfl, (blk_cell BK122.out 4).trans rfl⟩ (fun hHeld => ?_)
    clear hK K
    refine norm_ (a' := ?_) ?_ ?_
    rotate_left
    ·show Act.put _ (some 16) _ = _
     simp only [Act.put, List.setIfInBounds_toArray, List.set_cons_zero, List.set_cons_succ, i64_w, i32_w]
     rfl
    refine pure_ (i := 7) (N := some 17) (v := ?_) (a' := ?_) #[true, true, true, true, true, true, true, true, false, false] rfl rfl (any_of HT_.out (by kernel_rfl)) (fun _ _ _ h => h) (Or.inl ⟨by rfl, ?_⟩) ?_ ?_
    rotate_left
    ·intro w'
     go_simp
     with_reducible rfl
    rotate_left
    ·simp only [Act.put, List.setIfInBounds_toArray, List.set_cons_zero, List.set_cons_succ, i64_w, i32_w]
     rfl
    refine one_ (i := 8) (N := some 6) #[true, true, true, true, true, true, true, true, true, false] rfl rfl (one_of HT_.out (by kernel_rfl)) (by decide) (fun K hK => ?_)
    refine box_step ?hg (N := 6) ?hd (cs := #[.int .i64 0, .int .i64 0, .int .i64 0, .slice none 0 0, .slice none 0 0]) (t := 30) ?hr ?_; (case hd => rfl); (case hg => rfl); (case hr => first | (go_simp; done) | (go_simp; rfl))
    intro gb132 hg w12 hbox hb
    have n0_ := rB HO128 hb
    have n1_ := rB HO131 hb
    have n2_ := bB BK122 hb
    have n3_ := bB BK123 hb
    have n4_ := Aside0.mk (below_step (pB HB) hb)
    have n5_ := Aside0.mk (hbox)
    have n6_ := Aside0.mk ((by rw [hg]; exact (below_size (pB HB)) : w.heap.size ≤ gb132))
    have n7_ := Aside0.mk ((by rw [hg]; exact (below_size (pB HB)) : w.heap.size ≤ gb132))
    have n8_ := Aside0.mk ((by rw [hg]; exact Nat.ne_of_lt (blk_lt (g := gb122) (o := .cells #[.int .i64 a0_0, .int .i64 a0_1, .int .i64 a0_2, .slice A0_3 l0_3.length c0_3, .slice A0_4 l0_4.length c0_4] 30 (0, 0)) (by (with_reducible repeat (first | refine blk_drewN ?_ _ | refine blk_drew ?_ | refine blk_alloc ?_ _)); exact BK122.out)) : gb122 ≠ gb132))
    have n9_ := Aside0.mk ((by rw [hg]; exact Nat.ne_of_gt (blk_lt (g := gb122) (o := .cells #[.int .i64 a0_0, .int .i64 a0_1, .int .i64 a0_2, .slice A0_3 l0_3.length c0_3, .slice A0_4 l0_4.length c0_4] 30 (0, 0)) (by (with_reducible repeat (first | refine blk_drewN ?_ _ | refine blk_drew ?_ | refine blk_alloc ?_ _)); exact BK122.out)) : gb132 ≠ gb122))
    have n10_ := Aside0.mk ((by rw [hg]; exact Nat.ne_of_lt (blk_lt (g := gb123) (o := .cells #[.int .i64 0, .int .i64 0, .int .i64 0, .slice none 0 0, .slice none 0 0] 30 (0, 0)) (by (with_reducible repeat (first | refine blk_drewN ?_ _ | refine blk_drew ?_ | refine blk_alloc ?_ _)); exact BK123.out)) : gb123 ≠ gb132))
    have n11_ := Aside0.mk ((by rw [hg]; exact Nat.ne_of_gt (blk_lt (g := gb123) (o := .cells #[.int .i64 0, .int .i64 0, .int .i64 0, .slice none 0 0, .slice none 0 0] 30 (0, 0)) (by (with_reducible repeat (first | refine blk_drewN ?_ _ | refine blk_drew ?_ | refine blk_alloc ?_ _)); exact BK123.out)) : gb132 ≠ gb123))
    clear HO128
    clear HO131
    clear BK122
    clear BK123
    clear HB
    have HO128 := n0_
    have HO131 := n1_
    have BK122 := n2_
    have BK123 := n3_
    have HB := n4_
    have BK132 := n5_
    have GW132 := n6_
    have GE132 := n7_
    have NB122_132 := n8_
    have NB132_122 := n9_
    have NB123_132 := n10_
    have NB132_123 := n11_
    clear n0_ n1_ n2_ n3_ n4_ n5_ n6_ n7_ n8_ n9_ n10_ n11_
    clear hb hbox hg
    refine hK.out _ _ ⟨(blk_cell BK122.out 0).trans rfl, (blk_cell BK122.out 1).trans rfl, (blk_cell BK122.out 2).trans rfl, (blk_cell BK122.out 3).trans rfl, (blk_cell BK122.out 4).trans rfl⟩ (fun hHeld => ?_)
    clear hK K
    refine norm_ (a' := ?_) ?_ ?_
    rotate_left
    ·show Act.put _ (some 6) _ = _
     simp only [Act.put, List.setIfInBounds_toArray, List.set_cons_zero, List.set_cons_succ, i64_w, i32_w]
     rfl
    exact norm_ (by simp only [putAll, Act.put, List.setIfInBounds_toArray, List.set_cons_zero, List.set_cons_succ]) (hCont (.slice Ao11 t126.length co11, .slice Ao10 t129.length co10, gb132) _ ⟨hHeld, (by (with_reducible repeat (first | apply Kd.R_alloc | apply Kd.R_drewN | apply Kd.R_drew)); exact HO128.out), (by (with_reducible repeat (first | apply Kd.R_alloc | apply Kd.R_drewN | apply Kd.R_drew)); exact HO131.out), (by (with_reducible repeat (first | refine blk_drewN ?_ _ | refine blk_drew ?_ | refine blk_alloc ?_ _)); exact BK122.out), (by (with_reducible repeat (first | refine blk_drewN ?_ _ | refine blk_drew ?_ | refine blk_alloc ?_ _)); exact BK123.out), (by (with_reducible repeat (first | refine blk_drewN ?_ _ | refine blk_drew ?_ | refine blk_alloc ?_ _)); exact BK132.out), GW132.out, GE132.out, NB122_132.out, NB132_122.out, NB123_132.out, NB132_123.out, (pB HB)⟩)
   ·skip
    refine box_step ?hg (N := 6) ?hd (cs := #[.int .i64 0, .int .i64 0, .int .i64 0, .slice none 0 0, .slice none 0 0]) (t := 30) ?hr ?_; (case hd => rfl); (case hg => rfl); (case hr => first | (go_simp; done) | (go_simp; rfl))
    intro gb132 hg w9 hbox hb
    have n0_ := rB HO128 hb
    have n1_ := bB BK122 hb
    have n2_ := bB BK123 hb
    have n3_ := Aside0.mk (below_step (pB HB) hb)
    have n4_ := Aside0.mk (hbox)
    have n5_ := Aside0.mk ((by rw [hg]; exact (below_size (pB HB)) : w.heap.size ≤ gb132))
    have n6_ := Aside0.mk ((by rw [hg]; exact (below_size (pB HB)) : w.heap.size ≤ gb132))
    have n7_ := Aside0.mk ((by rw [hg]; exact Nat.ne_of_lt (blk_lt (g := gb122) (o := .cells #[.int .i64 a0_0, .int .i64 a0_1, .int .i64 a0_2, .slice A0_3 l0_3.length c0_3, .slice A0_4 l0_4.length c0_4] 30 (0, 0)) (by (with_reducible repeat (first | refine blk_drewN ?_ _ | refine blk_drew ?_ | refine blk_alloc ?_ _)); exact BK122.out)) : gb122 ≠ gb132))
    have n8_ := Aside0.mk ((by rw [hg]; exact Nat.ne_of_gt (blk_lt (g := gb122) (o := .cells #[.int .i64 a0_0, .int .i64 a0_1, .int .i64 a0_2, .slice A0_3 l0_3.length c0_3, .slice A0_4 l0_4.length c0_4] 30 (0, 0)) (by (with_reducible repeat (first | refine blk_drewN ?_ _ | refine blk_drew ?_ | refine blk_alloc ?_ _)); exact BK122.out)) : gb132 ≠ gb122))
    have n9_ := Aside0.mk ((by rw [hg]; exact Nat.ne_of_lt (blk_lt (g := gb123) (o := .cells #[.int .i64 0, .int .i64 0, .int .i64 0, .slice none 0 0, .slice none 0 0] 30 (0, 0)) (by (with_reducible repeat (first | refine blk_drewN ?_ _ | refine blk_drew ?_ | refine blk_alloc ?_ _)); exact BK123.out)) : gb123 ≠ gb132))
    have n10_ := Aside0.mk ((by rw [hg]; exact Nat.ne_of_gt (blk_lt (g := gb123) (o := .cells #[.int .i64 0, .int .i64 0, .int .i64 0, .slice none 0 0, .slice none 0 0] 30 (0, 0)) (by (with_reducible repeat (first | refine blk_drewN ?_ _ | refine blk_drew ?_ | refine blk_alloc ?_ _)); exact BK123.out)) : gb132 ≠ gb123))
    clear HO128
    clear BK122
    clear BK123
    clear HB
    have HO128 := n0_
    have BK122 := n1_
    have BK123 := n2_
    have HB := n3_
    have BK132 := n4_
    have GW132 := n5_
    have GE132 := n6_
    have NB122_132 := n7_
    have NB132_122 := n8_
    have NB123_132 := n9_
    have NB132_123 := n10_
    clear n0_ n1_ n2_ n3_ n4_ n5_ n6_ n7_ n8_ n9_ n10_
    clear hb hbox hg
    refine hK.out _ _ ⟨(blk_cell BK122.out 0).trans rfl, (blk_cell BK122.out 1).trans rfl, (blk_cell BK122.out 2).trans rfl, (blk_cell BK122.out 3).trans rfl, (blk_cell BK122.out 4).trans rfl⟩ (fun hHeld => ?_)
    clear hK K
    refine norm_ (a' := ?_) ?_ ?_
    rotate_left
    ·show Act.put _ (some 6) _ = _
     simp only [Act.put, List.setIfInBounds_toArray, List.set_cons_zero, List.set_cons_succ, i64_w, i32_w]
     rfl
    refine one_ (i := 6) (N := some 16) #[true, true, true, true, true, true, true, false, true, false] rfl rfl (one_of HT_.out (by kernel_rfl)) (by decide) (fun K hK => ?_)
    refine goes_ Try.func50 (by kernel_rfl) rfl #[.slice A0_4 l0_4.length c0_4] (by rfl) rfl rfl (by (try simp only [List.map_toArray, List.map_cons, List.map_nil]); first | done | rfl | (simp only [List.length_drop, List.length_take]; rfl)) ?_
    with_reducible refine (cloneMatters.calls _ _ l0_4 t129 _ ?side1 ?side2 A4.out).mono ?_
    (case side1 => repeat (first | exact (Kd.C_below HR0_4.out HB.out) | (with_reducible refine Kd.C_alloc ?_ _) | (with_reducible refine Kd.C_drewN ?_ _) | (with_reducible refine Kd.C_drew ?_)))
    (case side2 => exact HC0_4.out)
    rintro e w10 ⟨v130, rfl, ho0, hb⟩
    refine ⟨_, rfl, ?_⟩
    have n0_ := rB HO128 hb
    have n1_ := Aside0.mk (Kd.R_lower ho0 (below_size (pB HB)))
    have n2_ := bB BK122 hb
    have n3_ := bB BK123 hb
    have n4_ := bB BK132 hb
    have n5_ := Aside0.mk (below_step (pB HB) hb)
    clear HO128
    clear BK122
    clear BK123
    clear BK132
    clear HB
    have HO128 := n0_
    have HO131 := n1_
    have BK122 := n2_
    have BK123 := n3_
    have BK132 := n4_
    have HB := n5_
    clear n0_ n1_ n2_ n3_ n4_ n5_
    (try clear hb)
    (try clear hb2)
    (try clear hk)
    (try clear hi)
    (try clear ho0)
    obtain ⟨Ao11, co11, eo11⟩ := Kd.R_slice HO131.out
    (first | subst eo11 | (injection eo11 with f1_ f2_ f3_; have f4_ := f1_.symm; have f5_ := f3_.symm; clear f1_ f2_ f3_; subst f4_; subst f5_))
    obtain ⟨Ao12, co12, eo12⟩ := Kd.R_slice HO128.out
    (first | subst eo12 | (injection eo12 with f1_ f2_ f3_; have f4_ := f1_.symm; have f5_ := f3_.symm; clear f1_ f2_ f3_; subst f4_; subst f5_))
    refine hK.out _ _ ⟨(blk_cell BK122.out 0).trans rfl, (blk_cell BK122.out 1).trans rfl, (blk_cell BK122.out 2).trans rfl, (blk_cell BK122.out 3).trans rfl, (blk_cell BK122.out 4).trans rfl⟩ (fun hHeld => ?_)
    clear hK K
    refine norm_ (a' := ?_) ?_ ?_
    rotate_left
    ·show Act.put _ (some 16) _ = _
     simp only [Act.put, List.setIfInBounds_toArray, List.set_cons_zero, List.set_cons_succ, i64_w, i32_w]
     rfl
    refine pure_ (i := 7) (N := some 17) (v := ?_) (a' := ?_) #[true, true, true, true, true, true, true, true, true, false] rfl rfl (any_of HT_.out (by kernel_rfl)) (fun _ _ _ h => h) (Or.inl ⟨by rfl, ?_⟩) ?_ ?_
    rotate_left
    ·intro w'
     go_simp
     with_reducible rfl
    rotate_left
    ·simp only [Act.put, List.setIfInBounds_toArray, List.set_cons_zero, List.set_cons_succ, i64_w, i32_w]
     rfl
    exact norm_ (by simp only [putAll, Act.put, List.setIfInBounds_toArray, List.set_cons_zero, List.set_cons_succ]) (hCont (.slice Ao12 t126.length co12, .slice Ao11 t129.length co11, gb132) _ ⟨hHeld, (by (with_reducible repeat (first | apply Kd.R_alloc | apply Kd.R_drewN | apply Kd.R_drew)); exact HO128.out), (by (with_reducible repeat (first | apply Kd.R_alloc | apply Kd.R_drewN | apply Kd.R_drew)); exact HO131.out), (by (with_reducible repeat (first | refine blk_drewN ?_ _ | refine blk_drew ?_ | refine blk_alloc ?_ _)); exact BK122.out), (by (with_reducible repeat (first | refine blk_drewN ?_ _ | refine blk_drew ?_ | refine blk_alloc ?_ _)); exact BK123.out), (by (with_reducible repeat (first | refine blk_drewN ?_ _ | refine blk_drew ?_ | refine blk_alloc ?_ _)); exact BK132.out), GW132.out, GE132.out, NB122_132.out, NB132_122.out, NB123_132.out, NB132_123.out, (pB HB)⟩)
  ·skip
   refine box_step ?hg (N := 6) ?hd (cs := #[.int .i64 0, .int .i64 0, .int .i64 0, .slice none 0 0, .slice none 0 0]) (t := 30) ?hr ?_; (case hd => rfl); (case hg => rfl); (case hr => first | (go_simp; done) | (go_simp; rfl))
   intro gb132 hg w8 hbox hb
   have n0_ := bB BK122 hb
   have n1_ := bB BK123 hb
   have n2_ := Aside0.mk (below_step (pB HB) hb)
   have n3_ := Aside0.mk (hbox)
   have n4_ := Aside0.mk ((by rw [hg]; exact (below_size (pB HB)) : w.heap.size ≤ gb132))
   have n5_ := Aside0.mk ((by rw [hg]; exact (below_size (pB HB)) : w.heap.size ≤ gb132))
   have n6_ := Aside0.mk ((by rw [hg]; exact Nat.ne_of_lt (blk_lt (g := gb122) (o := .cells #[.int .i64 a0_0, .int .i64 a0_1, .int .i64 a0_2, .slice A0_3 l0_3.length c0_3, .slice A0_4 l0_4.length c0_4] 30 (0, 0)) (by (with_reducible repeat (first | refine blk_drewN ?_ _ | refine blk_drew ?_ | refine blk_alloc ?_ _)); exact BK122.out)) : gb122 ≠ gb132))
   have n7_ := Aside0.mk ((by rw [hg]; exact Nat.ne_of_gt (blk_lt (g := gb122) (o := .cells #[.int .i64 a0_0, .int .i64 a0_1, .int .i64 a0_2, .slice A0_3 l0_3.length c0_3, .slice A0_4 l0_4.length c0_4] 30 (0, 0)) (by (with_reducible repeat (first | refine blk_drewN ?_ _ | refine blk_drew ?_ | refine blk_alloc ?_ _)); exact BK122.out)) : gb132 ≠ gb122))
   have n8_ := Aside0.mk ((by rw [hg]; exact Nat.ne_of_lt (blk_lt (g := gb123) (o := .cells #[.int .i64 0, .int .i64 0, .int .i64 0, .slice none 0 0, .slice none 0 0] 30 (0, 0)) (by (with_reducible repeat (first | refine blk_drewN ?_ _ | refine blk_drew ?_ | refine blk_alloc ?_ _)); exact BK123.out)) : gb123 ≠ gb132))
   have n9_ := Aside0.mk ((by rw [hg]; exact Nat.ne_of_gt (blk_lt (g := gb123) (o := .cells #[.int .i64 0, .int .i64 0, .int .i64 0, .slice none 0 0, .slice none 0 0] 30 (0, 0)) (by (with_reducible repeat (first | refine blk_drewN ?_ _ | refine blk_drew ?_ | refine blk_alloc ?_ _)); exact BK123.out)) : gb132 ≠ gb123))
   clear BK122
   clear BK123
   clear HB
   have BK122 := n0_
   have BK123 := n1_
   have HB := n2_
   have BK132 := n3_
   have GW132 := n4_
   have GE132 := n5_
   have NB122_132 := n6_
   have NB132_122 := n7_
   have NB123_132 := n8_
   have NB132_123 := n9_
   clear n0_ n1_ n2_ n3_ n4_ n5_ n6_ n7_ n8_ n9_
   clear hb hbox hg
   refine hK.out _ _ ⟨(blk_cell BK122.out 0).trans rfl, (blk_cell BK122.out 1).trans rfl, (blk_cell BK122.out 2).trans rfl, (blk_cell BK122.out 3).trans rfl, (blk_cell BK122.out 4).trans rfl⟩ (fun hHeld => ?_)
   clear hK K
   refine norm_ (a' := ?_) ?_ ?_
   rotate_left
   ·show Act.put _ (some 6) _ = _
    simp only [Act.put, List.setIfInBounds_toArray, List.set_cons_zero, List.set_cons_succ, i64_w, i32_w]
    rfl
   refine one_ (i := 3) (N := some 13) #[true, true, true, true, true, true, false, false, true, false] rfl rfl (one_of HT_.out (by kernel_rfl)) (by decide) (fun K hK => ?_)
   refine goes_ Try.func35 (by kernel_rfl) rfl #[.agg #[.int .i64 a0_1, .int .i64 a0_2, .slice A0_3 l0_3.length c0_3]] (by rfl) rfl rfl (by (try simp only [List.map_toArray, List.map_cons, List.map_nil]); first | done | rfl | (simp only [List.length_drop, List.length_take]; rfl)) ?_
   with_reducible refine (docket_copyTerms.calls a0_1 a0_2 _ _ l0_3 t124 t125 t126 _ ?side1 ?side2 A3.out).mono ?_
   (case side1 => repeat (first | exact (Kd.C_below HR0_3.out HB.out) | (with_reducible refine Kd.C_alloc ?_ _) | (with_reducible refine Kd.C_drewN ?_ _) | (with_reducible refine Kd.C_drew ?_)))
   (case side2 => exact HC0_3.out)
   rintro e w9 ⟨v127, rfl, ho0, hb⟩
   refine ⟨_, rfl, ?_⟩
   have n0_ := Aside0.mk (Kd.R_lower ho0 (below_size (pB HB)))
   have n1_ := bB BK122 hb
   have n2_ := bB BK123 hb
   have n3_ := bB BK132 hb
   have n4_ := Aside0.mk (below_step (pB HB) hb)
   clear BK122
   clear BK123
   clear BK132
   clear HB
   have HO128 := n0_
   have BK122 := n1_
   have BK123 := n2_
   have BK132 := n3_
   have HB := n4_
   clear n0_ n1_ n2_ n3_ n4_
   (try clear hb)
   (try clear hb2)
   (try clear hk)
   (try clear hi)
   (try clear ho0)
   refine hK.out _ _ ⟨(blk_cell BK122.out 0).trans rfl, (blk_cell BK122.out 1).trans rfl, (blk_cell BK122.out 2).trans rfl, (blk_cell BK122.out 3).trans rfl, (blk_cell BK122.out 4).trans rfl⟩ (fun hHeld => ?_)
   clear hK K
   refine norm_ (a' := ?_) ?_ ?_
   rotate_left
   ·show Act.put _ (some 13) _ = _
    simp only [Act.put, List.setIfInBounds_toArray, List.set_cons_zero, List.set_cons_succ, i64_w, i32_w]
    rfl
   refine one_ (i := 6) (N := some 16) #[true, true, true, true, true, true, true, false, true, false] rfl rfl (one_of HT_.out (by kernel_rfl)) (by decide) (fun K hK => ?_)
   refine goes_ Try.func50 (by kernel_rfl) rfl #[.slice A0_4 l0_4.length c0_4] (by rfl) rfl rfl (by (try simp only [List.map_toArray, List.map_cons, List.map_nil]); first | done | rfl | (simp only [List.length_drop, List.length_take]; rfl)) ?_
   with_reducible refine (cloneMatters.calls _ _ l0_4 t129 _ ?side1 ?side2 A4.out).mono ?_
   (case side1 => repeat (first | exact (Kd.C_below HR0_4.out HB.out) | (with_reducible refine Kd.C_alloc ?_ _) | (with_reducible refine Kd.C_drewN ?_ _) | (with_reducible refine Kd.C_drew ?_)))
   (case side2 => exact HC0_4.out)
   rintro e w10 ⟨v130, rfl, ho0, hb⟩
   refine ⟨_, rfl, ?_⟩
   have n0_ := rB HO128 hb
   have n1_ := Aside0.mk (Kd.R_lower ho0 (below_size (pB HB)))
   have n2_ := bB BK122 hb
   have n3_ := bB BK123 hb
   have n4_ := bB BK132 hb
   have n5_ := Aside0.mk (below_step (pB HB) hb)
   clear HO128
   clear BK122
   clear BK123
   clear BK132
   clear HB
   have HO128 := n0_
   have HO131 := n1_
   have BK122 := n2_
   have BK123 := n3_
   have BK132 := n4_
   have HB := n5_
   clear n0_ n1_ n2_ n3_ n4_ n5_
   (try clear hb)
   (try clear hb2)
   (try clear hk)
   (try clear hi)
   (try clear ho0)
   obtain ⟨Ao11, co11, eo11⟩ := Kd.R_slice HO131.out
   (first | subst eo11 | (injection eo11 with f1_ f2_ f3_; have f4_ := f1_.symm; have f5_ := f3_.symm; clear f1_ f2_ f3_; subst f4_; subst f5_))
   obtain ⟨Ao12, co12, eo12⟩ := Kd.R_slice HO128.out
   (first | subst eo12 | (injection eo12 with f1_ f2_ f3_; have f4_ := f1_.symm; have f5_ := f3_.symm; clear f1_ f2_ f3_; subst f4_; subst f5_))
   refine hK.out _ _ ⟨(blk_cell BK122.out 0).trans rfl, (blk_cell BK122.out 1).trans rfl, (blk_cell BK122.out 2).trans rfl, (blk_cell BK122.out 3).trans rfl, (blk_cell BK122.out 4).trans rfl⟩ (fun hHeld => ?_)
   clear hK K
   refine norm_ (a' := ?_) ?_ ?_
   rotate_left
   ·show Act.put _ (some 16) _ = _
    simp only [Act.put, List.setIfInBounds_toArray, List.set_cons_zero, List.set_cons_succ, i64_w, i32_w]
    rfl
   refine pure_ (i := 7) (N := some 17) (v := ?_) (a' := ?_) #[true, true, true, true, true, true, true, true, true, false] rfl rfl (any_of HT_.out (by kernel_rfl)) (fun _ _ _ h => h) (Or.inl ⟨by rfl, ?_⟩) ?_ ?_
   rotate_left
   ·intro w'
    go_simp
    with_reducible rfl
   rotate_left
   ·simp only [Act.put, List.setIfInBounds_toArray, List.set_cons_zero, List.set_cons_succ, i64_w, i32_w]
    rfl
   exact norm_ (by simp only [putAll, Act.put, List.setIfInBounds_toArray, List.set_cons_zero, List.set_cons_succ]) (hCont (.slice Ao12 t126.length co12, .slice Ao11 t129.length co11, gb132) _ ⟨hHeld, (by (with_reducible repeat (first | apply Kd.R_alloc | apply Kd.R_drewN | apply Kd.R_drew)); exact HO128.out), (by (with_reducible repeat (first | apply Kd.R_alloc | apply Kd.R_drewN | apply Kd.R_drew)); exact HO131.out), (by (with_reducible repeat (first | refine blk_drewN ?_ _ | refine blk_drew ?_ | refine blk_alloc ?_ _)); exact BK122.out), (by (with_reducible repeat (first | refine blk_drewN ?_ _ | refine blk_drew ?_ | refine blk_alloc ?_ _)); exact BK123.out), (by (with_reducible repeat (first | refine blk_drewN ?_ _ | refine blk_drew ?_ | refine blk_alloc ?_ _)); exact BK132.out), GW132.out, GE132.out, NB122_132.out, NB132_122.out, NB123_132.out, NB132_123.out, (pB HB)⟩)
 rintro ⟨v127, v130, gb132⟩ w13 ⟨hS_, h0_, h1_, h2_, h3_, h4_, h5_, h6_, h7_, h8_, h9_, h10_, h11_⟩
 have n0_ : Aside0 (Kd.R (Kd.int .i64) 3 w13 w.heap.size (fun _ => True) v127 t126) := ⟨h0_⟩
 have n1_ : Aside0 (Kd.R k50 50 w13 w.heap.size (fun _ => True) v130 t129) := ⟨h1_⟩
 have n2_ : Aside0 (w13.heap[gb122]? = some (.cells #[.int .i64 a0_0, .int .i64 a0_1, .int .i64 a0_2, .slice A0_3 l0_3.length c0_3, .slice A0_4 l0_4.length c0_4] 30 (0, 0))) := ⟨h2_⟩
 have n3_ : Aside0 (w13.heap[gb123]? = some (.cells #[.int .i64 0, .int .i64 0, .int .i64 0, .slice none 0 0, .slice none 0 0] 30 (0, 0))) := ⟨h3_⟩
 have n4_ : Aside0 (w13.heap[gb132]? = some (.cells #[.int .i64 0, .int .i64 0, .int .i64 0, .slice none 0 0, .slice none 0 0] 30 (0, 0))) := ⟨h4_⟩
 have n5_ : Aside0 (w.heap.size ≤ gb132) := ⟨h5_⟩
 have n6_ : Aside0 (w.heap.size ≤ gb132) := ⟨h6_⟩
 have n7_ : Aside0 (gb122 ≠ gb132) := ⟨h7_⟩
 have n8_ : Aside0 (gb132 ≠ gb122) := ⟨h8_⟩
 have n9_ : Aside0 (gb123 ≠ gb132) := ⟨h9_⟩
 have n10_ : Aside0 (gb132 ≠ gb123) := ⟨h10_⟩
 have n11_ : Aside0 (Below w.heap.size w w13) := ⟨h11_⟩
 clear BK122
 clear BK123
 clear HB
 clear h0_ h1_ h2_ h3_ h4_ h5_ h6_ h7_ h8_ h9_ h10_ h11_
 have HO128 := n0_
 have HO131 := n1_
 have BK122 := n2_
 have BK123 := n3_
 have BK132 := n4_
 have GW132 := n5_
 have GE132 := n6_
 have NB122_132 := n7_
 have NB132_122 := n8_
 have NB123_132 := n9_
 have NB132_123 := n10_
 have HB := n11_
 clear n0_ n1_ n2_ n3_ n4_ n5_ n6_ n7_ n8_ n9_ n10_ n11_
 have hHeld : w13.cell? ⟨gb122, 0, none⟩ = some (.int .i64 a0_0) ∧ w13.cell? ⟨gb122, 1, none⟩ = some (.int .i64 a0_1) ∧ w13.cell? ⟨gb122, 2, none⟩ = some (.int .i64 a0_2) ∧ w13.cell? ⟨gb122, 3, none⟩ = some (.slice A0_3 l0_3.length c0_3) ∧ w13.cell? ⟨gb122, 4, none⟩ = some (.slice A0_4 l0_4.length c0_4) := hS_
 obtain ⟨Ao14, co14, eo14⟩ := Kd.R_slice HO131.out
 (first | subst eo14 | (injection eo14 with f1_ f2_ f3_; have f4_ := f1_.symm; have f5_ := f3_.symm; clear f1_ f2_ f3_; subst f4_; subst f5_))
 obtain ⟨Ao15, co15, eo15⟩ := Kd.R_slice HO128.out
 (first | subst eo15 | (injection eo15 with f1_ f2_ f3_; have f4_ := f1_.symm; have f5_ := f3_.symm; clear f1_ f2_ f3_; subst f4_; subst f5_))
 refine norm_ (a' := ?_) ?_ ?_
 rotate_left
 ·simp only [putAll, Act.put, List.setIfInBounds_toArray, List.set_cons_zero, List.set_cons_succ]
  rfl
 refine one_ (i := 9) (N := none) #[true, true, true, true, true, true, true, true, true, true] rfl rfl (one_of HT_.out (by kernel_rfl)) (by decide) (fun K hK => ?_)
 have hs16 : w13.cell? ⟨gb132, 0, none⟩ = some (.int .i64 0) := (blk_cell BK132.out 0).trans rfl
 have hfs16 := blk_frozen BK132.out 0
 have hns16_0 := NB122_132.out
 have hns16_1 := NB123_132.out
 have hms16_0 := NB132_122.out
 have hms16_1 := NB132_123.out
 have hs17 : w13.cell? ⟨gb132, 1, none⟩ = some (.int .i64 0) := (blk_cell BK132.out 1).trans rfl
 have hfs17 := blk_frozen BK132.out 1
 have hns17_0 := NB122_132.out
 have hns17_1 := NB123_132.out
 have hms17_0 := NB132_122.out
 have hms17_1 := NB132_123.out
 have hs18 : w13.cell? ⟨gb132, 2, none⟩ = some (.int .i64 0) := (blk_cell BK132.out 2).trans rfl
 have hfs18 := blk_frozen BK132.out 2
 have hns18_0 := NB122_132.out
 have hns18_1 := NB123_132.out
 have hms18_0 := NB132_122.out
 have hms18_1 := NB132_123.out
 have hs19 : w13.cell? ⟨gb132, 3, none⟩ = some (.slice none 0 0) := (blk_cell BK132.out 3).trans rfl
 have hfs19 := blk_frozen BK132.out 3
 have hns19_0 := NB122_132.out
 have hns19_1 := NB123_132.out
 have hms19_0 := NB132_122.out
 have hms19_1 := NB132_123.out
 have hs20 : w13.cell? ⟨gb132, 4, none⟩ = some (.slice none 0 0) := (blk_cell BK132.out 4).trans rfl
 have hfs20 := blk_frozen BK132.out 4
 have hns20_0 := NB122_132.out
 have hns20_1 := NB123_132.out
 have hms20_0 := NB132_122.out
 have hms20_1 := NB132_123.out
 refine skip_ (w1 := ?_) (by rfl) rfl ?_ ?_
 rotate_left
 ·go_simp
  rfl
 refine hK.out _ _ ⟨((cell_far (p := ⟨gb132, _, none⟩) NB122_132.out _).trans (((cell_far (p := ⟨gb132, _, none⟩) NB122_132.out _).trans (((cell_far (p := ⟨gb132, _, none⟩) NB122_132.out _).trans (((cell_far (p := ⟨gb132, _, none⟩) NB122_132.out _).trans (((cell_far (p := ⟨gb132, _, none⟩) NB122_132.out _).trans (hHeld.1)))))))))), ((cell_far (p := ⟨gb132, _, none⟩) NB122_132.out _).trans (((cell_far (p := ⟨gb132, _, none⟩) NB122_132.out _).trans (((cell_far (p := ⟨gb132, _, none⟩) NB122_132.out _).trans (((cell_far (p := ⟨gb132, _, none⟩) NB122_132.out _).trans (((cell_far (p := ⟨gb132, _, none⟩) NB122_132.out _).trans (hHeld.2.1)))))))))), ((cell_far (p := ⟨gb132, _, none⟩) NB122_132.out _).trans (((cell_far (p := ⟨gb132, _, none⟩) NB122_132.out _).trans (((cell_far (p := ⟨gb132, _, none⟩) NB122_132.out _).trans (((cell_far (p := ⟨gb132, _, none⟩) NB122_132.out _).trans (((cell_far (p := ⟨gb132, _, none⟩) NB122_132.out _).trans (hHeld.2.2.1)))))))))), ((cell_far (p := ⟨gb132, _, none⟩) NB122_132.out _).trans (((cell_far (p := ⟨gb132, _, none⟩) NB122_132.out _).trans (((cell_far (p := ⟨gb132, _, none⟩) NB122_132.out _).trans (((cell_far (p := ⟨gb132, _, none⟩) NB122_132.out _).trans (((cell_far (p := ⟨gb132, _, none⟩) NB122_132.out _).trans (hHeld.2.2.2.1)))))))))), ((cell_far (p := ⟨gb132, _, none⟩) NB122_132.out _).trans (((cell_far (p := ⟨gb132, _, none⟩) NB122_132.out _).trans (((cell_far (p := ⟨gb132, _, none⟩) NB122_132.out _).trans (((cell_far (p := ⟨gb132, _, none⟩) NB122_132.out _).trans (((cell_far (p := ⟨gb132, _, none⟩) NB122_132.out _).trans (hHeld.2.2.2.2))))))))))⟩ (fun hHeld => ?_)
 clear hK K
 refine done_ (done_of HT_.out (by kernel_rfl)) ?_
 have hnb21 := NB132_122.out
 have hnc21 := NB122_132.out
 have hnb22 := NB132_123.out
 have hnc22 := NB123_132.out
 obtain ⟨hcz23_0, hcz23_1, hcz23_2, hcz23_3, hcz23_4⟩ := cells5 BK132
 obtain ⟨hfz23_0, hfz23_1, hfz23_2, hfz23_3, hfz23_4⟩ := frz5 BK132
 try go_wp2
 go_loopg [7, 21] k (fun kq v7 v21 w' => ∃ (x7_1 : List (S52)) (x21_1 : Int) (x133004_1 : List (S50)) (u133004 : Value), v21 = .int .i64 x21_1 ∧ Aside0 (docket_advance.l0 kq a1 x7_1 (t129.length : Int) x21_1 a1 t124 t125 t126 x133004_1 = some (r1, r2, r3, r4, r5, r6)) ∧ Aside0 (kq ≤ k) ∧ Aside0 (Kd.R k52 52 w' w.heap.size (fun _ => True) v7 x7_1) ∧ Aside0 (Kd.R (Kd.int .i64) 3 w' w.heap.size (fun _ => True) (.slice Ao15 t126.length co15) t126) ∧ Aside0 (Kd.R k50 50 w' w.heap.size (fun _ => True) u133004 x133004_1) ∧ Aside0 (w'.heap[gb122]? = some (.cells #[.int .i64 a0_0, .int .i64 a0_1, .int .i64 a0_2, (.slice A0_3 l0_3.length c0_3), (.slice A0_4 l0_4.length c0_4)] 30 (0, 0))) ∧ Aside0 (w'.heap[gb123]? = some (.cells #[.int .i64 0, .int .i64 0, .int .i64 0, (.slice none 0 0), (.slice none 0 0)] 30 (0, 0))) ∧ Aside0 (w'.heap[gb132]? = some (.cells #[.int .i64 a1, .int .i64 t124, .int .i64 t125, (.slice Ao15 t126.length co15), u133004] 30 (0, 0))) ∧ Aside0 (Below w.heap.size w w'))
 case atStart => exact ⟨(([] : List (S52))), (0), (t129), (.slice Ao14 t129.length co14), (by first | rfl | (simp; done) | (simp [*]; done)), H', ⟨Nat.le_refl _⟩, ⟨by first | exact Kd.R_nil _ _ _ _ _ | exact Kd.N_nil _ _ _ _ _ | exact Kd.V_nil _ _ _ _ _ | exact Kd.Q_nil _ _ _ _ _ | exact Kd.S_nil _ _ _ _ _⟩, ⟨by (with_reducible repeat (first | apply Kd.R_alloc | apply Kd.R_drewN | apply Kd.R_drew)); exact Kd.R_mono (Kd.R_far (p := ⟨gb132, 4, none⟩) (Kd.R_far (p := ⟨gb132, 3, none⟩) (Kd.R_far (p := ⟨gb132, 2, none⟩) (Kd.R_far (p := ⟨gb132, 1, none⟩) (Kd.R_far (p := ⟨gb132, 0, none⟩) (Kd.R_types HO128.out BK132.out (by decide)) (fun _ hk => hk.2) (.int .i64 a1)) (fun _ hk => hk.2) (.int .i64 t124)) (fun _ hk => hk.2) (.int .i64 t125)) (fun _ hk => hk.2) (.slice Ao15 t126.length co15)) (fun _ hk => hk.2) (.slice Ao14 t129.length co14)) (fun _ hk => trivial)⟩, ⟨by (with_reducible repeat (first | apply Kd.R_alloc | apply Kd.R_drewN | apply Kd.R_drew)); exact Kd.R_mono (Kd.R_far (p := ⟨gb132, 4, none⟩) (Kd.R_far (p := ⟨gb132, 3, none⟩) (Kd.R_far (p := ⟨gb132, 2, none⟩) (Kd.R_far (p := ⟨gb132, 1, none⟩) (Kd.R_far (p := ⟨gb132, 0, none⟩) (Kd.R_types HO131.out BK132.out (by decide)) (fun _ hk => hk.2) (.int .i64 a1)) (fun _ hk => hk.2) (.int .i64 t124)) (fun _ hk => hk.2) (.int .i64 t125)) (fun _ hk => hk.2) (.slice Ao15 t126.length co15)) (fun _ hk => hk.2) (.slice Ao14 t129.length co14)) (fun _ hk => trivial)⟩, ⟨by (with_reducible repeat (first | refine blk_drewN ?_ _ | refine blk_drew ?_ | refine blk_alloc ?_ _)); refine blk_far ?_ NB122_132.out _; (with_reducible repeat (first | refine blk_drewN ?_ _ | refine blk_drew ?_ | refine blk_alloc ?_ _)); refine blk_far ?_ NB122_132.out _; (with_reducible repeat (first | refine blk_drewN ?_ _ | refine blk_drew ?_ | refine blk_alloc ?_ _)); refine blk_far ?_ NB122_132.out _; (with_reducible repeat (first | refine blk_drewN ?_ _ | refine blk_drew ?_ | refine blk_alloc ?_ _)); refine blk_far ?_ NB122_132.out _; (with_reducible repeat (first | refine blk_drewN ?_ _ | refine blk_drew ?_ | refine blk_alloc ?_ _)); refine blk_far ?_ NB122_132.out _; (with_reducible repeat (first | refine blk_drewN ?_ _ | refine blk_drew ?_ | refine blk_alloc ?_ _)); exact BK122.out⟩, ⟨by (with_reducible repeat (first | refine blk_drewN ?_ _ | refine blk_drew ?_ | refine blk_alloc ?_ _)); refine blk_far ?_ NB123_132.out _; (with_reducible repeat (first | refine blk_drewN ?_ _ | refine blk_drew ?_ | refine blk_alloc ?_ _)); refine blk_far ?_ NB123_132.out _; (with_reducible repeat (first | refine blk_drewN ?_ _ | refine blk_drew ?_ | refine blk_alloc ?_ _)); refine blk_far ?_ NB123_132.out _; (with_reducible repeat (first | refine blk_drewN ?_ _ | refine blk_drew ?_ | refine blk_alloc ?_ _)); refine blk_far ?_ NB123_132.out _; (with_reducible repeat (first | refine blk_drewN ?_ _ | refine blk_drew ?_ | refine blk_alloc ?_ _)); refine blk_far ?_ NB123_132.out _; (with_reducible repeat (first | refine blk_drewN ?_ _ | refine blk_drew ?_ | refine blk_alloc ?_ _)); exact BK123.out⟩, ⟨by (with_reducible repeat (first | refine blk_drewN ?_ _ | refine blk_drew ?_ | refine blk_alloc ?_ _)); refine blk_put (cs := #[.int .i64 a1, .int .i64 t124, .int .i64 t125, .slice Ao15 t126.length co15, .slice none 0 0]) ?_ 4 _ rfl; (with_reducible repeat (first | refine blk_drewN ?_ _ | refine blk_drew ?_ | refine blk_alloc ?_ _)); refine blk_put (cs := #[.int .i64 a1, .int .i64 t124, .int .i64 t125, .slice none 0 0, .slice none 0 0]) ?_ 3 _ rfl; (with_reducible repeat (first | refine blk_drewN ?_ _ | refine blk_drew ?_ | refine blk_alloc ?_ _)); refine blk_put (cs := #[.int .i64 a1, .int .i64 t124, .int .i64 0, .slice none 0 0, .slice none 0 0]) ?_ 2 _ rfl; (with_reducible repeat (first | refine blk_drewN ?_ _ | refine blk_drew ?_ | refine blk_alloc ?_ _)); refine blk_put (cs := #[.int .i64 a1, .int .i64 0, .int .i64 0, .slice none 0 0, .slice none 0 0]) ?_ 1 _ rfl; (with_reducible repeat (first | refine blk_drewN ?_ _ | refine blk_drew ?_ | refine blk_alloc ?_ _)); refine blk_put (cs := #[.int .i64 0, .int .i64 0, .int .i64 0, .slice none 0 0, .slice none 0 0]) ?_ 0 _ rfl; (with_reducible repeat (first | refine blk_drewN ?_ _ | refine blk_drew ?_ | refine blk_alloc ?_ _)); exact BK132.out⟩, ⟨pB HB⟩⟩
 case round =>
  clear H'
  try clear c2
  try clear p2
  try clear c3
  try clear c5
  try clear c21
  try clear c22
  obtain ⟨x7_1, x21_1, x133004_1, u133004, rfl, HA, HK1, HO_7, HO_133003, HO_133004, BK122, BK123, BK132, HB⟩ := hrel
  cases gk with
  | zero => exact absurd HA.out (by simp [docket_advance.l0])
  | succ k1 =>
   have H := HA.out
   clear HA
   simp only [docket_advance.l0] at H
   by_cases c24 : x21_1 < (t129.length : Int)
   ·rw [if_pos c24] at H
    have c24b0 : decide (x21_1 < (t129.length : Int)) = true := decide_eq_true c24
    clear c24
    by_cases c25 : 0 ≤ x21_1
    ·rw [if_pos c25] at H
     have c25b0 : decide (0 ≤ x21_1) = true := decide_eq_true c25
     clear c25
     by_cases c26 : x21_1 < (x133004_1.length : Int)
     ·rw [if_pos c26] at H
      have c26b0 : decide (x21_1 < (x133004_1.length : Int)) = true := decide_eq_true c26
      clear c26
      replace H := Option.bind_eq_some_iff.mp H
      obtain ⟨t135, A270, H⟩ := H
      replace H : (if t135 = true then (if ((rd_T50 x133004_1 x21_1).f2) ≥ a1 then (docket_advance.l0 k1 a1 x7_1 (t129.length : Int) (wrap64 (x21_1 + 1)) a1 t124 t125 t126 x133004_1) else (if x7_1.length < 5864062014805 then ((some (x133004_1.set (x21_1 : Int).toNat (⟨(rd_T50 x133004_1 x21_1).f0, (rd_T50 x133004_1 x21_1).f1, (rd_T50 x133004_1 x21_1).f2, (rd_T50 x133004_1 x21_1).f3, (((rd_T50 x133004_1 x21_1).f1) == 2)⟩ : S50) : List (S50))).bind fun y144 => ((some (y144.set (x21_1 : Int).toNat (⟨(rd_T50 y144 x21_1).f0, 6, (rd_T50 y144 x21_1).f2, (rd_T50 y144 x21_1).f3, (rd_T50 y144 x21_1).f4⟩ : S50) : List (S50))).bind fun y145 => (docket_advance.l0 k1 a1 (x7_1 ++ [(⟨(rd_T50 x133004_1 x21_1).f0, wrap64 (((rd_T50 x133004_1 x21_1).f2) + 1), (rd_T50 x133004_1 x21_1).f3⟩ : S52)]) (t129.length : Int) (wrap64 (x21_1 + 1)) a1 t124 t125 t126 (y145.set (x21_1 : Int).toNat (⟨(rd_T50 y145 x21_1).f0, (rd_T50 y145 x21_1).f1, 0, (rd_T50 y145 x21_1).f3, (rd_T50 y145 x21_1).f4⟩ : S50))))) else (none))) else (docket_advance.l0 k1 a1 x7_1 (t129.length : Int) (wrap64 (x21_1 + 1)) a1 t124 t125 t126 x133004_1)) = some (r1, r2, r3, r4, r5, r6) := H
      have A27 := Aside0.mk A270
      clear A270
      by_cases c28 : t135 = true
      ·subst c28
       have H1 : (if ((rd_T50 x133004_1 x21_1).f2) ≥ a1 then (docket_advance.l0 k1 a1 x7_1 (t129.length : Int) (wrap64 (x21_1 + 1)) a1 t124 t125 t126 x133004_1) else (if x7_1.length < 5864062014805 then ((some (x133004_1.set (x21_1 : Int).toNat (⟨(rd_T50 x133004_1 x21_1).f0, (rd_T50 x133004_1 x21_1).f1, (rd_T50 x133004_1 x21_1).f2, (rd_T50 x133004_1 x21_1).f3, (((rd_T50 x133004_1 x21_1).f1) == 2)⟩ : S50) : List (S50))).bind fun y144 => ((some (y144.set (x21_1 : Int).toNat (⟨(rd_T50 y144 x21_1).f0, 6, (rd_T50 y144 x21_1).f2, (rd_T50 y144 x21_1).f3, (rd_T50 y144 x21_1).f4⟩ : S50) : List (S50))).bind fun y145 => (docket_advance.l0 k1 a1 (x7_1 ++ [(⟨(rd_T50 x133004_1 x21_1).f0, wrap64 (((rd_T50 x133004_1 x21_1).f2) + 1), (rd_T50 x133004_1 x21_1).f3⟩ : S52)]) (t129.length : Int) (wrap64 (x21_1 + 1)) a1 t124 t125 t126 (y145.set (x21_1 : Int).toNat (⟨(rd_T50 y145 x21_1).f0, (rd_T50 y145 x21_1).f1, 0, (rd_T50 y145 x21_1).f3, (rd_T50 y145 x21_1).f4⟩ : S50))))) else (none))) = some (r1, r2, r3, r4, r5, r6) := by rw [if_pos rfl] at H; exact H
       clear H
       have H := H1
       clear H1
       by_cases c29 : ((rd_T50 x133004_1 x21_1).f2) ≥ a1
       ·rw [if_pos c29] at H
        have c29b0 : decide (a1 ≤ ((rd_T50 x133004_1 x21_1).f2)) = true := decide_eq_true c29
        clear c29
        have H' := Aside0.mk H
        clear H
        have hnb30 := NB132_122.out
        have hnc30 := NB122_132.out
        have hnb31 := NB132_123.out
        have hnc31 := NB123_132.out
        obtain ⟨hcz32_0, hcz32_1, hcz32_2, hcz32_3, hcz32_4⟩ := cells5 BK132
        obtain ⟨hfz32_0, hfz32_1, hfz32_2, hfz32_3, hfz32_4⟩ := frz5 BK132
        obtain ⟨Ao33, co33, eo33⟩ := Kd.R_slice HO_133004.out
        subst eo33
        have p133 : 0 ≤ (x21_1 : Int) := of_decide_eq_true (by first | (with_reducible assumption) | assumption)
        have q133 : x21_1 < (x133004_1.length : Int) := of_decide_eq_true (by first | (with_reducible assumption) | assumption)
        obtain ⟨Aq45, cq45, eq45⟩ := Kd.R_slice HO_133004.out
        (first | subst eq45 | clear eq45)
        obtain ⟨ad133, e133, hx133_0, hx133_1, hx133_2, hx133_3, hx133_4⟩ := at_T50 (Kd.R_reads' HO_133004.out).2.2 x21_1 p133 q133
        cases e133
        replace p133 := eq_true p133
        replace q133 := eq_true q133
        have p134 : 0 ≤ (x21_1 : Int) := of_decide_eq_true (by first | (with_reducible assumption) | assumption)
        have q134 : x21_1 < (x133004_1.length : Int) := of_decide_eq_true (by first | (with_reducible assumption) | assumption)
        obtain ⟨Aq46, cq46, eq46⟩ := Kd.R_slice HO_133004.out
        (first | subst eq46 | clear eq46)
        obtain ⟨ad134, e134, hx134_0, hx134_1, hx134_2, hx134_3, hx134_4⟩ := at_T50 (Kd.R_reads' HO_133004.out).2.2 x21_1 p134 q134
        obtain rfl : ad133 = ad134 := (by injection e134)
        replace p134 := eq_true p134
        replace q134 := eq_true q134
        go_wp2_with (first | ((with_reducible refine gate_callee (f := 42) rfl ?_); refine goesL_ (some 31) rfl rfl Try.func42 (by kernel_rfl) rfl #[.agg #[.int .i64 ((rd_T50 x133004_1 x21_1).f0), .int .i64 ((rd_T50 x133004_1 x21_1).f1), .int .i64 ((rd_T50 x133004_1 x21_1).f2), .int .i64 ((rd_T50 x133004_1 x21_1).f3), .bool ((rd_T50 x133004_1 x21_1).f4)]] rfl (by (try simp only [List.map_toArray, List.map_cons, List.map_nil]); first | done | rfl | (simp only [List.length_drop, List.length_take]; rfl)) ?_; (with_reducible refine (docket_running.calls ((rd_T50 x133004_1 x21_1).f0) ((rd_T50 x133004_1 x21_1).f1) ((rd_T50 x133004_1 x21_1).f2) ((rd_T50 x133004_1 x21_1).f3) ((rd_T50 x133004_1 x21_1).f4) true _ A27.out).mono ?_); rintro e w34 ⟨rfl, hb⟩; refine ⟨_, rfl, ?_⟩; have n0_ := rB HO_7 hb; have n1_ := rB HO_133003 hb; have n2_ := rB HO_133004 hb; have n3_ := bB BK122 hb; have n4_ := bB BK123 hb; have n5_ := bB BK132 hb; have n6_ := Aside0.mk (below_step (pB HB) hb); clear HO_7; clear HO_133003; clear HO_133004; clear BK122; clear BK123; clear BK132; clear HB; have HO_7 := n0_; have HO_133003 := n1_; have HO_133004 := n2_; have BK122 := n3_; have BK123 := n4_; have BK132 := n5_; have HB := n6_; clear n0_ n1_ n2_ n3_ n4_ n5_ n6_; (try clear hb); (try clear hb2); (try clear hk); (try clear hi); have p136 : 0 ≤ (x21_1 : Int) := of_decide_eq_true (by first | (with_reducible assumption) | assumption); have q136 : x21_1 < (x133004_1.length : Int) := of_decide_eq_true (by first | (with_reducible assumption) | assumption); obtain ⟨ad136, e136, hx136_0, hx136_1, hx136_2, hx136_3, hx136_4⟩ := at_T50 (Kd.R_reads' HO_133004.out).2.2 x21_1 p136 q136; obtain rfl : ad133 = ad136 := (by injection e136); replace p136 := eq_true p136; replace q136 := eq_true q136))
        go_roundg k1
        case measure => have := HK1.out; omega
        case rel => exact ⟨(x7_1), (wrap64 (x21_1 + 1)), (x133004_1), (.slice (some ad133) x133004_1.length co33), (by first | rfl | (simp; done) | (simp [*]; done)), H', ⟨by have := HK1.out; omega⟩, ⟨by (with_reducible repeat (first | apply Kd.R_alloc | apply Kd.R_drewN | apply Kd.R_drew)); exact HO_7.out⟩, ⟨by (with_reducible repeat (first | apply Kd.R_alloc | apply Kd.R_drewN | apply Kd.R_drew)); exact HO_133003.out⟩, ⟨by (with_reducible repeat (first | apply Kd.R_alloc | apply Kd.R_drewN | apply Kd.R_drew)); exact HO_133004.out⟩, ⟨by (with_reducible repeat (first | refine blk_drewN ?_ _ | refine blk_drew ?_ | refine blk_alloc ?_ _)); exact BK122.out⟩, ⟨by (with_reducible repeat (first | refine blk_drewN ?_ _ | refine blk_drew ?_ | refine blk_alloc ?_ _)); exact BK123.out⟩, ⟨by (with_reducible repeat (first | refine blk_drewN ?_ _ | refine blk_drew ?_ | refine blk_alloc ?_ _)); exact BK132.out⟩, ⟨pB HB⟩⟩
       ·rw [if_neg c29] at H
        have c29b0 : decide (a1 ≤ ((rd_T50 x133004_1 x21_1).f2)) = false := decide_eq_false c29
        clear c29
        by_cases c35 : x7_1.length < 5864062014805
        ·rw [if_pos c35] at H
         have LMc35 := Aside0.mk c35
         clear c35
         obtain ⟨y140, hy140⟩ : ∃ y_ : List (S52), y_ = (x7_1 ++ [(⟨(rd_T50 x133004_1 x21_1).f0, wrap64 (((rd_T50 x133004_1 x21_1).f2) + 1), (rd_T50 x133004_1 x21_1).f3⟩ : S52)]) := ⟨_, rfl⟩
         replace H : ((some (x133004_1.set (x21_1 : Int).toNat (⟨(rd_T50 x133004_1 x21_1).f0, (rd_T50 x133004_1 x21_1).f1, (rd_T50 x133004_1 x21_1).f2, (rd_T50 x133004_1 x21_1).f3, (((rd_T50 x133004_1 x21_1).f1) == 2)⟩ : S50) : List (S50))).bind fun y144 => ((some (y144.set (x21_1 : Int).toNat (⟨(rd_T50 y144 x21_1).f0, 6, (rd_T50 y144 x21_1).f2, (rd_T50 y144 x21_1).f3, (rd_T50 y144 x21_1).f4⟩ : S50) : List (S50))).bind fun y145 => (docket_advance.l0 k1 a1 y140 (t129.length : Int) (wrap64 (x21_1 + 1)) a1 t124 t125 t126 (y145.set (x21_1 : Int).toNat (⟨(rd_T50 y145 x21_1).f0, (rd_T50 y145 x21_1).f1, 0, (rd_T50 y145 x21_1).f3, (rd_T50 y145 x21_1).f4⟩ : S50))))) = some (r1, r2, r3, r4, r5, r6) := by first | (rw [hy140]; with_reducible exact H) | (have H2_ := (Option.bind_some _ _).symm.trans H; rw [hy140]; with_reducible exact H2_) | (have H2_ := (Option.bind_some _ _).symm.trans H; with_reducible exact H2_) | with_reducible exact H | (rw [hy140]; exact H) | exact H
         have Ny140 := Aside0.mk hy140
         clear hy140
         obtain ⟨y144, hy144⟩ : ∃ y_ : List (S50), y_ = (x133004_1.set (x21_1 : Int).toNat (⟨(rd_T50 x133004_1 x21_1).f0, (rd_T50 x133004_1 x21_1).f1, (rd_T50 x133004_1 x21_1).f2, (rd_T50 x133004_1 x21_1).f3, (((rd_T50 x133004_1 x21_1).f1) == 2)⟩ : S50)) := ⟨_, rfl⟩
         replace H : ((some (y144.set (x21_1 : Int).toNat (⟨(rd_T50 y144 x21_1).f0, 6, (rd_T50 y144 x21_1).f2, (rd_T50 y144 x21_1).f3, (rd_T50 y144 x21_1).f4⟩ : S50) : List (S50))).bind fun y145 => (docket_advance.l0 k1 a1 y140 (t129.length : Int) (wrap64 (x21_1 + 1)) a1 t124 t125 t126 (y145.set (x21_1 : Int).toNat (⟨(rd_T50 y145 x21_1).f0, (rd_T50 y145 x21_1).f1, 0, (rd_T50 y145 x21_1).f3, (rd_T50 y145 x21_1).f4⟩ : S50)))) = some (r1, r2, r3, r4, r5, r6) := by first | (rw [hy144]; with_reducible exact H) | (have H2_ := (Option.bind_some _ _).symm.trans H; rw [hy144]; with_reducible exact H2_) | (have H2_ := (Option.bind_some _ _).symm.trans H; with_reducible exact H2_) | with_reducible exact H | (rw [hy144]; exact H) | exact H
         have Ny144 := Aside0.mk hy144
         clear hy144
         obtain ⟨y145, hy145⟩ : ∃ y_ : List (S50), y_ = (y144.set (x21_1 : Int).toNat (⟨(rd_T50 y144 x21_1).f0, 6, (rd_T50 y144 x21_1).f2, (rd_T50 y144 x21_1).f3, (rd_T50 y144 x21_1).f4⟩ : S50)) := ⟨_, rfl⟩
         replace H : (docket_advance.l0 k1 a1 y140 (t129.length : Int) (wrap64 (x21_1 + 1)) a1 t124 t125 t126 (y145.set (x21_1 : Int).toNat (⟨(rd_T50 y145 x21_1).f0, (rd_T50 y145 x21_1).f1, 0, (rd_T50 y145 x21_1).f3, (rd_T50 y145 x21_1).f4⟩ : S50))) = some (r1, r2, r3, r4, r5, r6) := by first | (rw [hy145]; with_reducible exact H) | (have H2_ := (Option.bind_some _ _).symm.trans H; rw [hy145]; with_reducible exact H2_) | (have H2_ := (Option.bind_some _ _).symm.trans H; with_reducible exact H2_) | with_reducible exact H | (rw [hy145]; exact H) | exact H
         have Ny145 := Aside0.mk hy145
         clear hy145
         obtain ⟨y146, hy146⟩ : ∃ y_ : List (S50), y_ = (y145.set (x21_1 : Int).toNat (⟨(rd_T50 y145 x21_1).f0, (rd_T50 y145 x21_1).f1, 0, (rd_T50 y145 x21_1).f3, (rd_T50 y145 x21_1).f4⟩ : S50)) := ⟨_, rfl⟩
         replace H : (docket_advance.l0 k1 a1 y140 (t129.length : Int) (wrap64 (x21_1 + 1)) a1 t124 t125 t126 y146) = some (r1, r2, r3, r4, r5, r6) := by first | (rw [hy146]; with_reducible exact H) | (have H2_ := (Option.bind_some _ _).symm.trans H; rw [hy146]; with_reducible exact H2_) | (have H2_ := (Option.bind_some _ _).symm.trans H; with_reducible exact H2_) | with_reducible exact H | (rw [hy146]; exact H) | exact H
         have Ny146 := Aside0.mk hy146
         clear hy146
         have H' := Aside0.mk H
         clear H
         have hnb39 := NB132_122.out
         have hnc39 := NB122_132.out
         have hnb40 := NB132_123.out
         have hnc40 := NB123_132.out
         obtain ⟨hcz41_0, hcz41_1, hcz41_2, hcz41_3, hcz41_4⟩ := cells5 BK132
         obtain ⟨hfz41_0, hfz41_1, hfz41_2, hfz41_3, hfz41_4⟩ := frz5 BK132
         obtain ⟨Ao42, co42, eo42⟩ := Kd.R_slice HO_133004.out
         subst eo42
         have p133 : 0 ≤ (x21_1 : Int) := of_decide_eq_true (by first | (with_reducible assumption) | assumption)
         have q133 : x21_1 < (x133004_1.length : Int) := of_decide_eq_true (by first | (with_reducible assumption) | assumption)
         obtain ⟨Aq47, cq47, eq47⟩ := Kd.R_slice HO_133004.out
         (first | subst eq47 | clear eq47)
         obtain ⟨ad133, e133, hx133_0, hx133_1, hx133_2, hx133_3, hx133_4⟩ := at_T50 (Kd.R_reads' HO_133004.out).2.2 x21_1 p133 q133
         cases e133
         replace p133 := eq_true p133
         replace q133 := eq_true q133
         have p134 : 0 ≤ (x21_1 : Int) := of_decide_eq_true (by first | (with_reducible assumption) | assumption)
         have q134 : x21_1 < (x133004_1.length : Int) := of_decide_eq_true (by first | (with_reducible assumption) | assumption)
         obtain ⟨Aq48, cq48, eq48⟩ := Kd.R_slice HO_133004.out
         (first | subst eq48 | clear eq48)
         obtain ⟨ad134, e134, hx134_0, hx134_1, hx134_2, hx134_3, hx134_4⟩ := at_T50 (Kd.R_reads' HO_133004.out).2.2 x21_1 p134 q134
         obtain rfl : ad133 = ad134 := (by injection e134)
         replace p134 := eq_true p134
         replace q134 := eq_true q134
         try go_wp2_with (first | ((with_reducible refine gate_callee (f := 42) rfl ?_); refine goesL_ (some 31) rfl rfl Try.func42 (by kernel_rfl) rfl #[.agg #[.int .i64 ((rd_T50 x133004_1 x21_1).f0), .int .i64 ((rd_T50 x133004_1 x21_1).f1), .int .i64 ((rd_T50 x133004_1 x21_1).f2), .int .i64 ((rd_T50 x133004_1 x21_1).f3), .bool ((rd_T50 x133004_1 x21_1).f4)]] rfl (by (try simp only [List.map_toArray, List.map_cons, List.map_nil]); first | done | rfl | (simp only [List.length_drop, List.length_take]; rfl)) ?_; (with_reducible refine (docket_running.calls ((rd_T50 x133004_1 x21_1).f0) ((rd_T50 x133004_1 x21_1).f1) ((rd_T50 x133004_1 x21_1).f2) ((rd_T50 x133004_1 x21_1).f3) ((rd_T50 x133004_1 x21_1).f4) true _ A27.out).mono ?_); rintro e w43 ⟨rfl, hb⟩; refine ⟨_, rfl, ?_⟩; have n0_ := rB HO_7 hb; have n1_ := rB HO_133003 hb; have n2_ := rB HO_133004 hb; have n3_ := bB BK122 hb; have n4_ := bB BK123 hb; have n5_ := bB BK132 hb; have n6_ := Aside0.mk (below_step (pB HB) hb); clear HO_7; clear HO_133003; clear HO_133004; clear BK122; clear BK123; clear BK132; clear HB; have HO_7 := n0_; have HO_133003 := n1_; have HO_133004 := n2_; have BK122 := n3_; have BK123 := n4_; have BK132 := n5_; have HB := n6_; clear n0_ n1_ n2_ n3_ n4_ n5_ n6_; (try clear hb); (try clear hb2); (try clear hk); (try clear hi); have p136 : 0 ≤ (x21_1 : Int) := of_decide_eq_true (by first | (with_reducible assumption) | assumption); have q136 : x21_1 < (x133004_1.length : Int) := of_decide_eq_true (by first | (with_reducible assumption) | assumption); obtain ⟨ad136, e136, hx136_0, hx136_1, hx136_2, hx136_3, hx136_4⟩ := at_T50 (Kd.R_reads' HO_133004.out).2.2 x21_1 p136 q136; obtain rfl : ad133 = ad136 := (by injection e136); replace p136 := eq_true p136; replace q136 := eq_true q136))
         have n0_ := Aside0.mk (Kd.R_drew HO_7.out)
         have n1_ := Aside0.mk (Kd.R_drew HO_133003.out)
         have n2_ := Aside0.mk (Kd.R_drew HO_133004.out)
         have n3_ := Aside0.mk (blk_drew BK122.out)
         have n4_ := Aside0.mk (blk_drew BK123.out)
         have n5_ := Aside0.mk (blk_drew BK132.out)
         have n6_ := Aside0.mk (below_drew1 HB.out)
         clear HO_7
         clear HO_133003
         clear HO_133004
         clear BK122
         clear BK123
         clear BK132
         clear HB
         have HO_7 := n0_
         have HO_133003 := n1_
         have HO_133004 := n2_
         have BK122 := n3_
         have BK123 := n4_
         have BK132 := n5_
         have HB := n6_
         clear n0_ n1_ n2_ n3_ n4_ n5_ n6_
         have p137 : 0 ≤ (x21_1 : Int) := of_decide_eq_true (by first | (with_reducible assumption) | assumption)
         have q137 : x21_1 < (x133004_1.length : Int) := of_decide_eq_true (by first | (with_reducible assumption) | assumption)
         obtain ⟨Aq49, cq49, eq49⟩ := Kd.R_slice HO_133004.out
         (first | subst eq49 | clear eq49)
         obtain ⟨ad137, e137, hx137_0, hx137_1, hx137_2, hx137_3, hx137_4⟩ := at_T50 (Kd.R_reads' HO_133004.out).2.2 x21_1 p137 q137
         obtain rfl : ad133 = ad137 := (by injection e137)
         replace p137 := eq_true p137
         replace q137 := eq_true q137
         have p138 : 0 ≤ (x21_1 : Int) := of_decide_eq_true (by first | (with_reducible assumption) | assumption)
         have q138 : x21_1 < (x133004_1.length : Int) := of_decide_eq_true (by first | (with_reducible assumption) | assumption)
         obtain ⟨Aq50, cq50, eq50⟩ := Kd.R_slice HO_133004.out
         (first | subst eq50 | clear eq50)
         obtain ⟨ad138, e138, hx138_0, hx138_1, hx138_2, hx138_3, hx138_4⟩ := at_T50 (Kd.R_reads' HO_133004.out).2.2 x21_1 p138 q138
         obtain rfl : ad133 = ad138 := (by injection e138)
         replace p138 := eq_true p138
         replace q138 := eq_true q138
         have p139 : 0 ≤ (x21_1 : Int) := of_decide_eq_true (by first | (with_reducible assumption) | assumption)
         have q139 : x21_1 < (x133004_1.length : Int) := of_decide_eq_true (by first | (with_reducible assumption) | assumption)
         obtain ⟨Aq51, cq51, eq51⟩ := Kd.R_slice HO_133004.out
         (first | subst eq51 | clear eq51)
         obtain ⟨ad139, e139, hx139_0, hx139_1, hx139_2, hx139_3, hx139_4⟩ := at_T50 (Kd.R_reads' HO_133004.out).2.2 x21_1 p139 q139
         obtain rfl : ad133 = ad139 := (by injection e139)
         replace p139 := eq_true p139
         replace q139 := eq_true q139
         refine start_ (n := 18) (S := fun w' => w'.cell? (ad133.add ((x21_1).toNat * 5)) = some (.int .i64 ((rd_T50 x133004_1 x21_1).f0)) ∧ w'.cell? ⟨(ad133.add ((x21_1).toNat * 5)).block, (ad133.add ((x21_1).toNat * 5)).off + 1, none⟩ = some (.int .i64 ((rd_T50 x133004_1 x21_1).f1)) ∧ w'.cell? ⟨(ad133.add ((x21_1).toNat * 5)).block, (ad133.add ((x21_1).toNat * 5)).off + 2, none⟩ = some (.int .i64 ((rd_T50 x133004_1 x21_1).f2)) ∧ w'.cell? ⟨(ad133.add ((x21_1).toNat * 5)).block, (ad133.add ((x21_1).toNat * 5)).off + 3, none⟩ = some (.int .i64 ((rd_T50 x133004_1 x21_1).f3)) ∧ w'.cell? ⟨(ad133.add ((x21_1).toNat * 5)).block, (ad133.add ((x21_1).toNat * 5)).off + 4, none⟩ = some (.bool ((rd_T50 x133004_1 x21_1).f4)) ∧ w'.cell? (ad133.add ((x21_1).toNat * 5)) = some (.int .i64 ((rd_T50 x133004_1 x21_1).f0)) ∧ w'.cell? ⟨(ad133.add ((x21_1).toNat * 5)).block, (ad133.add ((x21_1).toNat * 5)).off + 1, none⟩ = some (.int .i64 ((rd_T50 x133004_1 x21_1).f1)) ∧ w'.cell? ⟨(ad133.add ((x21_1).toNat * 5)).block, (ad133.add ((x21_1).toNat * 5)).off + 2, none⟩ = some (.int .i64 ((rd_T50 x133004_1 x21_1).f2)) ∧ w'.cell? ⟨(ad133.add ((x21_1).toNat * 5)).block, (ad133.add ((x21_1).toNat * 5)).off + 3, none⟩ = some (.int .i64 ((rd_T50 x133004_1 x21_1).f3)) ∧ w'.cell? ⟨(ad133.add ((x21_1).toNat * 5)).block, (ad133.add ((x21_1).toNat * 5)).off + 4, none⟩ = some (.bool ((rd_T50 x133004_1 x21_1).f4)) ∧ w'.cell? (ad133.add ((x21_1).toNat * 5)) = some (.int .i64 ((rd_T50 x133004_1 x21_1).f0)) ∧ w'.cell? ⟨(ad133.add ((x21_1).toNat * 5)).block, (ad133.add ((x21_1).toNat * 5)).off + 1, none⟩ = some (.int .i64 ((rd_T50 x133004_1 x21_1).f1)) ∧ w'.cell? ⟨(ad133.add ((x21_1).toNat * 5)).block, (ad133.add ((x21_1).toNat * 5)).off + 2, none⟩ = some (.int .i64 ((rd_T50 x133004_1 x21_1).f2)) ∧ w'.cell? ⟨(ad133.add ((x21_1).toNat * 5)).block, (ad133.add ((x21_1).toNat * 5)).off + 3, none⟩ = some (.int .i64 ((rd_T50 x133004_1 x21_1).f3)) ∧ w'.cell? ⟨(ad133.add ((x21_1).toNat * 5)).block, (ad133.add ((x21_1).toNat * 5)).off + 4, none⟩ = some (.bool ((rd_T50 x133004_1 x21_1).f4))) (ds := [15, 16]) #[false, false, false, false, false, false, false, false, false, false, false, false, false, false, false, false, false, false] (by kernel_rfl) rfl rfl ⟨hx137_0, hx137_1, hx137_2, hx137_3, hx137_4, hx138_0, hx138_1, hx138_2, hx138_3, hx138_4, hx139_0, hx139_1, hx139_2, hx139_3, hx139_4⟩ (fun hHeld => ?_); refine with_tabW docket_advance.tab8 docket_advance.bits8 (fun HT_ HW_ => ?_)
         generalize w43.drew = w44 at HO_7 HO_133003 HO_133004 BK122 BK123 BK132 HB hx137_0 hx137_1 hx137_2 hx137_3 hx137_4 hx138_0 hx138_1 hx138_2 hx138_3 hx138_4 hx139_0 hx139_1 hx139_2 hx139_3 hx139_4 hHeld ⊢
         refine pure_ (i := 0) (N := some 41) (v := ?_) (a' := ?_) #[true, false, false, false, false, false, false, false, false, false, false, false, false, false, false, false, false, false] rfl rfl (any_of HT_.out (by kernel_rfl)) (fun _ _ _ h => h) (Or.inl ⟨by rfl, ?_⟩) ?_ ?_
         rotate_left
         ·intro w'
          go_simp
          with_reducible rfl
         rotate_left
         ·simp only [Act.put, List.setIfInBounds_toArray, List.set_cons_zero, List.set_cons_succ, i64_w, i32_w]
          rfl
         refine pure_ (i := 1) (N := some 42) (v := ?_) (a' := ?_) #[true, true, false, false, false, false, false, false, false, false, false, false, false, false, false, false, false, false] rfl rfl (any_of HT_.out (by kernel_rfl)) (fun _ _ _ h => h) (Or.inl ⟨by rfl, ?_⟩) ?_ ?_
         rotate_left
         ·intro w'
          go_simp
          with_reducible rfl
         rotate_left
         ·simp only [Act.put, List.setIfInBounds_toArray, List.set_cons_zero, List.set_cons_succ, i64_w, i32_w]
          rfl
         refine pure_ (i := 2) (N := some 43) (v := ?_) (a' := ?_) #[true, true, true, false, false, false, false, false, false, false, false, false, false, false, false, false, false, false] rfl rfl (any_of HT_.out (by kernel_rfl)) (fun _ _ _ h => h) (Or.inl ⟨by rfl, ?_⟩) ?_ ?_
         rotate_left
         ·intro w'
          go_simp
          with_reducible rfl
         rotate_left
         ·simp only [Act.put, List.setIfInBounds_toArray, List.set_cons_zero, List.set_cons_succ, i64_w, i32_w]
          rfl
         refine pure_ (i := 3) (N := some 44) (v := ?_) (a' := ?_) #[true, true, true, true, false, false, false, false, false, false, false, false, false, false, false, false, false, false] rfl rfl (any_of HT_.out (by kernel_rfl)) (fun _ _ _ h => h) (Or.inl ⟨by rfl, ?_⟩) ?_ ?_
         rotate_left
         ·intro w'
          go_simp
          with_reducible rfl
         rotate_left
         ·simp only [Act.put, List.setIfInBounds_toArray, List.set_cons_zero, List.set_cons_succ, i64_w, i32_w]
          rfl
         refine pure_ (i := 5) (N := some 46) (v := ?_) (a' := ?_) #[true, true, true, true, false, true, false, false, false, false, false, false, false, false, false, false, false, false] rfl rfl (any_of HT_.out (by kernel_rfl)) (fun _ _ _ h => h) (Or.inl ⟨by rfl, ?_⟩) ?_ ?_
         rotate_left
         ·intro w'
          go_simp
          with_reducible rfl
         rotate_left
         ·simp only [Act.put, List.setIfInBounds_toArray, List.set_cons_zero, List.set_cons_succ, i64_w, i32_w]
          rfl
         refine pure_ (i := 6) (N := some 47) (v := ?_) (a' := ?_) #[true, true, true, true, false, true, true, false, false, false, false, false, false, false, false, false, false, false] rfl rfl (any_of HT_.out (by kernel_rfl)) (fun _ _ _ h => h) (Or.inl ⟨by rfl, ?_⟩) ?_ ?_
         rotate_left
         ·intro w'
          go_simp
          with_reducible rfl
         rotate_left
         ·simp only [Act.put, List.setIfInBounds_toArray, List.set_cons_zero, List.set_cons_succ, i64_w, i32_w]
          rfl
         refine pure_ (i := 7) (N := some 48) (v := ?_) (a' := ?_) #[true, true, true, true, false, true, true, true, false, false, false, false, false, false, false, false, false, false] rfl rfl (any_of HT_.out (by kernel_rfl)) (fun _ _ _ h => h) (Or.inl ⟨by rfl, ?_⟩) ?_ ?_
         rotate_left
         ·intro w'
          go_simp
          with_reducible rfl
         rotate_left
         ·simp only [Act.put, List.setIfInBounds_toArray, List.set_cons_zero, List.set_cons_succ, i64_w, i32_w]
          rfl
         refine pure_ (i := 10) (N := some 51) (v := ?_) (a' := ?_) #[true, true, true, true, false, true, true, true, false, false, true, false, false, false, false, false, false, false] rfl rfl (any_of HT_.out (by kernel_rfl)) (fun _ _ _ h => h) (Or.inl ⟨by rfl, ?_⟩) ?_ ?_
         rotate_left
         ·intro w'
          go_simp
          with_reducible rfl
         rotate_left
         ·simp only [Act.put, List.setIfInBounds_toArray, List.set_cons_zero, List.set_cons_succ, i64_w, i32_w]
          rfl
         refine pure_ (i := 11) (N := some 52) (v := ?_) (a' := ?_) #[true, true, true, true, false, true, true, true, false, false, true, true, false, false, false, false, false, false] rfl rfl (any_of HT_.out (by kernel_rfl)) (fun _ _ _ h => h) (Or.inl ⟨by rfl, ?_⟩) ?_ ?_
         rotate_left
         ·intro w'
          go_simp
          with_reducible rfl
         rotate_left
         ·simp only [Act.put, List.setIfInBounds_toArray, List.set_cons_zero, List.set_cons_succ, i64_w, i32_w]
          rfl
         refine pure_ (i := 12) (N := some 53) (v := ?_) (a' := ?_) #[true, true, true, true, false, true, true, true, false, false, true, true, true, false, false, false, false, false] rfl rfl (any_of HT_.out (by kernel_rfl)) (fun _ _ _ h => h) (Or.inl ⟨by rfl, ?_⟩) ?_ ?_
         rotate_left
         ·intro w'
          go_simp
          with_reducible rfl
         rotate_left
         ·simp only [Act.put, List.setIfInBounds_toArray, List.set_cons_zero, List.set_cons_succ, i64_w, i32_w]
          rfl
         refine take_ (i := 4) (N := some 45) (v := ?_) (a' := ?_) #[true, true, true, true, true, true, true, true, false, false, true, true, true, false, false, false, false, false] rfl rfl (take_ofW HT_.out HW_.out (by kernel_rfl)) (fun _ _ _ h => h) (Or.inl ⟨by rfl, ?_⟩) hHeld ?_ ?_
         rotate_left
         ·rintro w' ⟨s0, s1, s2, s3, s4, s5, s6, s7, s8, s9, s10, s11, s12, s13, s14⟩
          go_simp
          with_reducible rfl
         rotate_left
         ·simp only [Act.put, List.setIfInBounds_toArray, List.set_cons_zero, List.set_cons_succ, i64_w, i32_w]
          rfl
         refine take_ (i := 8) (N := some 49) (v := ?_) (a' := ?_) #[true, true, true, true, true, true, true, true, true, false, true, true, true, false, false, false, false, false] rfl rfl (take_ofW HT_.out HW_.out (by kernel_rfl)) (fun _ _ _ h => h) (Or.inl ⟨by rfl, ?_⟩) hHeld ?_ ?_
         rotate_left
         ·rintro w' ⟨s0, s1, s2, s3, s4, s5, s6, s7, s8, s9, s10, s11, s12, s13, s14⟩
          go_simp
          with_reducible rfl
         rotate_left
         ·simp only [Act.put, List.setIfInBounds_toArray, List.set_cons_zero, List.set_cons_succ, i64_w, i32_w]
          rfl
         refine pure_ (i := 9) (N := some 50) (v := ?_) (a' := ?_) #[true, true, true, true, true, true, true, true, true, true, true, true, true, false, false, false, false, false] rfl rfl (any_of HT_.out (by kernel_rfl)) (fun _ _ _ h => h) (Or.inl ⟨by rfl, ?_⟩) ?_ ?_
         rotate_left
         ·intro w'
          go_simp
          with_reducible rfl
         rotate_left
         ·simp only [Act.put, List.setIfInBounds_toArray, List.set_cons_zero, List.set_cons_succ, i64_w, i32_w]
          rfl
         refine take_ (i := 13) (N := some 54) (v := ?_) (a' := ?_) #[true, true, true, true, true, true, true, true, true, true, true, true, true, true, false, false, false, false] rfl rfl (take_ofW HT_.out HW_.out (by kernel_rfl)) (fun _ _ _ h => h) (Or.inl ⟨by rfl, ?_⟩) hHeld ?_ ?_
         rotate_left
         ·rintro w' ⟨s0, s1, s2, s3, s4, s5, s6, s7, s8, s9, s10, s11, s12, s13, s14⟩
          go_simp
          with_reducible rfl
         rotate_left
         ·simp only [Act.put, List.setIfInBounds_toArray, List.set_cons_zero, List.set_cons_succ, i64_w, i32_w]
          rfl
         refine pure_ (i := 14) (N := some 55) (v := ?_) (a' := ?_) #[true, true, true, true, true, true, true, true, true, true, true, true, true, true, true, false, false, false] rfl rfl (any_of HT_.out (by kernel_rfl)) (fun _ _ _ h => h) (Or.inl ⟨by rfl, ?_⟩) ?_ ?_
         rotate_left
         ·intro w'
          go_simp
          with_reducible rfl
         rotate_left
         ·simp only [Act.put, List.setIfInBounds_toArray, List.set_cons_zero, List.set_cons_succ, i64_w, i32_w]
          rfl
         refine last_ (i := 15) (N := some 56) #[true, true, true, true, true, true, true, true, true, true, true, true, true, true, true, true, false, false] rfl rfl (one_of HT_.out (by kernel_rfl)) (by decide) (fun K hK => ?_)
         refine value_ (w1 := ?_) (v := ?_) (by rfl) rfl ?_ ?_
         rotate_left 2
         ·go_simp
          constructor
          ·rfl
          ·rfl
         refine hK.out _ _ ?_
         clear hK K
         refine norm_ (a' := ?_) ?_ ?_
         rotate_left
         ·show Act.put _ (some 56) _ = _
          simp only [Act.put, List.setIfInBounds_toArray, List.set_cons_zero, List.set_cons_succ, i64_w, i32_w]
          rfl
         refine last_ (i := 16) (N := some 57) #[true, true, true, true, true, true, true, true, true, true, true, true, true, true, true, true, true, false] rfl rfl (one_of HT_.out (by kernel_rfl)) (by decide) (fun K hK => ?_)
         refine Kd.R_append_step k52 (w0 := w) w.heap.size (by rfl) (.tmp 41) (.tmp 56) 32 52 (.agg #[(.int .i64 0), (.int .i64 0), (.int .i64 0)]) 24 rfl Try.underlying32 info52 rfl (by decide) (by omega) u7 x7_1 (⟨(rd_T50 x133004_1 x21_1).f0, wrap64 (((rd_T50 x133004_1 x21_1).f2) + 1), (rd_T50 x133004_1 x21_1).f3⟩ : S52) [.int .i64 ((rd_T50 x133004_1 x21_1).f0), .int .i64 (wrap64 (((rd_T50 x133004_1 x21_1).f2) + 1)), .int .i64 ((rd_T50 x133004_1 x21_1).f3)] (fun _ => True) (fun _ => False) rfl rfl ?aP (fun _ hk => hk.elim) ?aF ?aO ?aB ?aS ?aL ?_
         (case aP => exact k52_mkM _ _ _ (⟨(rd_T50 x133004_1 x21_1).f0, wrap64 (((rd_T50 x133004_1 x21_1).f2) + 1), (rd_T50 x133004_1 x21_1).f3⟩ : S52))
         (case aB => exact (pB HB))
         (case aF => exact (fun _ _ => trivial))
         (case aO => exact (by (with_reducible repeat (first | apply Kd.R_alloc | apply Kd.R_drewN | apply Kd.R_drew)); exact HO_7.out))
         (case aS => exact (below_size (pB HB)))
         (case aL => have := LMc35.out; omega)
         intro v141 w45 ho hb hg hat
         rw [← Ny140.out] at ho
         have n0_ := Aside0.mk (Kd.R_over' (by (with_reducible repeat (first | apply Kd.R_alloc | apply Kd.R_drewN | apply Kd.R_drew)); exact HO_133003.out) (Kd.R_typed (by (with_reducible repeat (first | apply Kd.R_alloc | apply Kd.R_drewN | apply Kd.R_drew)); exact HO_7.out)) (by decide) hg)
         have n1_ := Aside0.mk (Kd.R_over' (by (with_reducible repeat (first | apply Kd.R_alloc | apply Kd.R_drewN | apply Kd.R_drew)); exact HO_133004.out) (Kd.R_typed (by (with_reducible repeat (first | apply Kd.R_alloc | apply Kd.R_drewN | apply Kd.R_drew)); exact HO_7.out)) (by decide) hg)
         have n2_ := Aside0.mk (blk_grown (g := gb122) (o := .cells #[.int .i64 a0_0, .int .i64 a0_1, .int .i64 a0_2, .slice A0_3 l0_3.length c0_3, .slice A0_4 l0_4.length c0_4] 30 (0, 0)) (by (with_reducible repeat (first | refine blk_drewN ?_ _ | refine blk_drew ?_ | refine blk_alloc ?_ _)); exact BK122.out) hg (Kd.R_ne HO_7.out BK122.out (by decide)))
         have n3_ := Aside0.mk (blk_grown (g := gb123) (o := .cells #[.int .i64 0, .int .i64 0, .int .i64 0, .slice none 0 0, .slice none 0 0] 30 (0, 0)) (by (with_reducible repeat (first | refine blk_drewN ?_ _ | refine blk_drew ?_ | refine blk_alloc ?_ _)); exact BK123.out) hg (Kd.R_ne HO_7.out BK123.out (by decide)))
         have n4_ := Aside0.mk (blk_grown (g := gb132) (o := .cells #[.int .i64 a1, .int .i64 t124, .int .i64 t125, .slice Ao15 t126.length co15, .slice (some ad133) x133004_1.length co42] 30 (0, 0)) (by (with_reducible repeat (first | refine blk_drewN ?_ _ | refine blk_drew ?_ | refine blk_alloc ?_ _)); exact BK132.out) hg (Kd.R_ne HO_7.out BK132.out (by decide)))
         have n5_ := Aside0.mk (hb)
         have n6_ := Aside0.mk (ho)
         clear HO_133003
         clear HO_133004
         clear BK122
         clear BK123
         clear BK132
         clear HB
         clear HO_7
         have HO_133003 := n0_
         have HO_133004 := n1_
         have BK122 := n2_
         have BK123 := n3_
         have BK132 := n4_
         have HB := n5_
         have HO142 := n6_
         clear n0_ n1_ n2_ n3_ n4_ n5_ n6_
         clear ho hb hg hat
         refine hK.out _ _ ?_
         clear hK K
         refine norm_ (a' := ?_) ?_ ?_
         rotate_left
         ·show Act.put _ (some 57) _ = _
          simp only [Act.put, List.setIfInBounds_toArray, List.set_cons_zero, List.set_cons_succ, i64_w, i32_w]
          rfl
         refine pure_ (i := 17) (N := some 7) (v := ?_) (a' := ?_) #[true, true, true, true, true, true, true, true, true, true, true, true, true, true, true, true, true, true] rfl rfl (any_of HT_.out (by kernel_rfl)) (fun _ _ _ h => h) (Or.inl ⟨by rfl, ?_⟩) ?_ ?_
         rotate_left
         ·intro w'
          go_simp
          with_reducible rfl
         rotate_left
         ·simp only [Act.put, List.setIfInBounds_toArray, List.set_cons_zero, List.set_cons_succ, i64_w, i32_w]
          rfl
         refine done_ (done_of HT_.out (by kernel_rfl)) ?_
         have p143 : 0 ≤ (x21_1 : Int) := of_decide_eq_true (by first | (with_reducible assumption) | assumption)
         have q143 : x21_1 < (x133004_1.length : Int) := of_decide_eq_true (by first | (with_reducible assumption) | assumption)
         obtain ⟨Aq52, cq52, eq52⟩ := Kd.R_slice HO_133004.out
         (first | subst eq52 | clear eq52)
         obtain ⟨ad143, e143, hx143_0, hx143_1, hx143_2, hx143_3, hx143_4⟩ := at_T50 (Kd.R_reads' HO_133004.out).2.2 x21_1 p143 q143
         obtain rfl : ad133 = ad143 := (by injection e143)
         replace p143 := eq_true p143
         replace q143 := eq_true q143
         have p36 : 0 ≤ (x21_1 : Int) := of_decide_eq_true (by first | (with_reducible assumption) | assumption)
         have q36 : (x21_1 : Int) < ((x133004_1.length : Int) : Int) := of_decide_eq_true (by first | (with_reducible assumption) | assumption)
         obtain ⟨go36, co36, eo36, gb36, gl36, cl36, HG36⟩ := Kd.R_form HO_133004.out (by omega)
         (first | cases eo36 | (injection eo36 with ea_ en_ ec_; (first | subst ea_ | (injection ea_ with ea_; subst ea_)); subst ec_; clear en_))
         have GB36 := Aside0.mk gb36
         have GG36 := Aside0.mk HG36
         clear gb36 gl36 HG36
         (first | simp only [add_plain] at hx133_0 | skip)
         (first | simp only [add_plain] at hx133_1 | skip)
         (first | simp only [add_plain] at hx133_2 | skip)
         (first | simp only [add_plain] at hx133_3 | skip)
         (first | simp only [add_plain] at hx133_4 | skip)
         (first | simp only [add_plain] at hx134_0 | skip)
         (first | simp only [add_plain] at hx134_1 | skip)
         (first | simp only [add_plain] at hx134_2 | skip)
         (first | simp only [add_plain] at hx134_3 | skip)
         (first | simp only [add_plain] at hx134_4 | skip)
         (first | simp only [add_plain] at hx136_0 | skip)
         (first | simp only [add_plain] at hx136_1 | skip)
         (first | simp only [add_plain] at hx136_2 | skip)
         (first | simp only [add_plain] at hx136_3 | skip)
         (first | simp only [add_plain] at hx136_4 | skip)
         (first | simp only [add_plain] at hx137_0 | skip)
         (first | simp only [add_plain] at hx137_1 | skip)
         (first | simp only [add_plain] at hx137_2 | skip)
         (first | simp only [add_plain] at hx137_3 | skip)
         (first | simp only [add_plain] at hx137_4 | skip)
         (first | simp only [add_plain] at hx138_0 | skip)
         (first | simp only [add_plain] at hx138_1 | skip)
         (first | simp only [add_plain] at hx138_2 | skip)
         (first | simp only [add_plain] at hx138_3 | skip)
         (first | simp only [add_plain] at hx138_4 | skip)
         (first | simp only [add_plain] at hx139_0 | skip)
         (first | simp only [add_plain] at hx139_1 | skip)
         (first | simp only [add_plain] at hx139_2 | skip)
         (first | simp only [add_plain] at hx139_3 | skip)
         (first | simp only [add_plain] at hx139_4 | skip)
         (first | simp only [add_plain] at hx143_0 | skip)
         (first | simp only [add_plain] at hx143_1 | skip)
         (first | simp only [add_plain] at hx143_2 | skip)
         (first | simp only [add_plain] at hx143_3 | skip)
         (first | simp only [add_plain] at hx143_4 | skip)
         obtain ⟨ce36, hcl36, hM36, hcc36, hfr36⟩ := Kd.R_elem HO_133004.out z50 (x21_1 : Int) p36 q36
         obtain rfl := k50_openM hM36
         have hx36_0 : w45.cell? ⟨go36, (x21_1 : Int).toNat * 5, none⟩ = some (.int .i64 ((rd_T50 x133004_1 x21_1).f0)) := hcc36 0 _ rfl
         have hx36_1 : w45.cell? ⟨go36, (x21_1 : Int).toNat * 5 + 1, none⟩ = some (.int .i64 ((rd_T50 x133004_1 x21_1).f1)) := hcc36 1 _ rfl
         have hx36_2 : w45.cell? ⟨go36, (x21_1 : Int).toNat * 5 + 2, none⟩ = some (.int .i64 ((rd_T50 x133004_1 x21_1).f2)) := hcc36 2 _ rfl
         have hx36_3 : w45.cell? ⟨go36, (x21_1 : Int).toNat * 5 + 3, none⟩ = some (.int .i64 ((rd_T50 x133004_1 x21_1).f3)) := hcc36 3 _ rfl
         have hx36_4 : w45.cell? ⟨go36, (x21_1 : Int).toNat * 5 + 4, none⟩ = some (.bool ((rd_T50 x133004_1 x21_1).f4)) := hcc36 4 _ rfl
         have hf36_0 : w45.frozen? ⟨go36, (x21_1 : Int).toNat * 5, none⟩ = false := hfr36 0
         have hf36_1 : w45.frozen? ⟨go36, (x21_1 : Int).toNat * 5 + 1, none⟩ = false := hfr36 1
         have hf36_2 : w45.frozen? ⟨go36, (x21_1 : Int).toNat * 5 + 2, none⟩ = false := hfr36 2
         have hf36_3 : w45.frozen? ⟨go36, (x21_1 : Int).toNat * 5 + 3, none⟩ = false := hfr36 3
         have hf36_4 : w45.frozen? ⟨go36, (x21_1 : Int).toNat * 5 + 4, none⟩ = false := hfr36 4
         clear hcl36 hcc36 hfr36 hM36
         replace p36 := eq_true p36
         replace q36 := eq_true q36
         have HX46 := Aside0.mk (show Kd.R k50 50 w45 w.heap.size (fun _ => True) (.slice (some ⟨go36, 0, none⟩) x133004_1.length co42) x133004_1 from (by (with_reducible repeat (first | apply Kd.R_alloc | apply Kd.R_drewN | apply Kd.R_drew)); exact HO_133004.out))
         obtain ⟨ce46, hcl46, hM46, hcc46, hfr46⟩ := Kd.R_elem HX46.out z50 (x21_1 : Int) (of_decide_eq_true (by first | (with_reducible assumption) | assumption)) (by have h_ : (x21_1 : Int) < ((x133004_1.length : Int) : Int) := of_decide_eq_true (by first | (with_reducible assumption) | assumption); first | exact h_ | (have e_ := (Kd.R_reads' HO_133004.out).1; omega) | simpa using h_)
         obtain rfl := k50_openM hM46
         have HP46 := Kd.R_seg HX46.out (x21_1 : Int) (of_decide_eq_true (by first | (with_reducible assumption) | assumption)) (by have h_ : (x21_1 : Int) < ((x133004_1.length : Int) : Int) := of_decide_eq_true (by first | (with_reducible assumption) | assumption); first | exact h_ | (have e_ := (Kd.R_reads' HO_133004.out).1; omega) | simpa using h_) (seg := [.bool (((rd_T50 x133004_1 x21_1).f1) == 2)]) (j := 4) hcl46 hcc46 (show 5 ≤ 5 from by decide) (x' := (⟨(rd_T50 x133004_1 x21_1).f0, (rd_T50 x133004_1 x21_1).f1, (rd_T50 x133004_1 x21_1).f2, (rd_T50 x133004_1 x21_1).f3, (((rd_T50 x133004_1 x21_1).f1) == 2)⟩ : S50)) (k50_mkM _ _ _ (⟨(rd_T50 x133004_1 x21_1).f0, (rd_T50 x133004_1 x21_1).f1, (rd_T50 x133004_1 x21_1).f2, (rd_T50 x133004_1 x21_1).f3, (((rd_T50 x133004_1 x21_1).f1) == 2)⟩ : S50) ) (fun _ hk => hk)
         have hx46_4 := hcc46 4 _ rfl
         (try simp only [show (k50).sz = 5 from rfl, Nat.mul_one, Nat.add_zero] at hx46_4)
         have hf46_4 := hfr46 4
         (try simp only [show (k50).sz = 5 from rfl, Nat.mul_one, Nat.add_zero] at hf46_4)
         clear hcl46 hcc46 hfr46 hM46
         try go_wp2_with (first | ((with_reducible refine gate_store (t := 4) (p := 65) rfl ?_); refine store_event (t := 4) (p := 65) (v := ?vo_w47) (w1 := (w45.setCell ⟨go36, (x21_1 : Int).toNat * 5 + 4, none⟩ (.bool (((rd_T50 x133004_1 x21_1).f1) == 2)))) ?hg ?ho ?hn ?hr ?_; (case ho => rfl); (case hg => rfl); (case hn => rfl); (case hr => first | (go_simp; done) | (go_simp; rfl)); intro w47 hw; have hg : w45.grownBy w47 (some go36) := (by rw [hw]; exact HP46.2); have hp_ : Kd.R k50 50 w47 w.heap.size (fun _ => True) (.slice (some ⟨go36, 0, none⟩) x133004_1.length co42) y144 := (by rw [hw, Ny144.out]; exact HP46.1); clear HP46; have n0_ := Aside0.mk (Kd.R_over' (v := (.slice (some ⟨go36, 0, none⟩) x133004_1.length co42)) (by (with_reducible repeat (first | apply Kd.R_alloc | apply Kd.R_drewN | apply Kd.R_drew)); exact HO_133003.out) (Kd.R_typed HO_133004.out) (by decide) hg); have n1_ := Aside0.mk (hp_); have n2_ := Aside0.mk (blk_grown (g := gb122) (o := .cells #[.int .i64 a0_0, .int .i64 a0_1, .int .i64 a0_2, .slice A0_3 l0_3.length c0_3, .slice A0_4 l0_4.length c0_4] 30 (0, 0)) (by (with_reducible repeat (first | refine blk_drewN ?_ _ | refine blk_drew ?_ | refine blk_alloc ?_ _)); exact BK122.out) hg (Kd.R_ne HO_133004.out BK122.out (by decide))); have n3_ := Aside0.mk (blk_grown (g := gb123) (o := .cells #[.int .i64 0, .int .i64 0, .int .i64 0, .slice none 0 0, .slice none 0 0] 30 (0, 0)) (by (with_reducible repeat (first | refine blk_drewN ?_ _ | refine blk_drew ?_ | refine blk_alloc ?_ _)); exact BK123.out) hg (Kd.R_ne HO_133004.out BK123.out (by decide))); have n4_ := Aside0.mk (blk_grown (g := gb132) (o := .cells #[.int .i64 a1, .int .i64 t124, .int .i64 t125, .slice Ao15 t126.length co15, .slice (some ⟨go36, 0, none⟩) x133004_1.length co42] 30 (0, 0)) (by (with_reducible repeat (first | refine blk_drewN ?_ _ | refine blk_drew ?_ | refine blk_alloc ?_ _)); exact BK132.out) hg (Kd.R_ne HO_133004.out BK132.out (by decide))); have n5_ := Aside0.mk (Kd.R_over' (v := (.slice (some ⟨go36, 0, none⟩) x133004_1.length co42)) (by (with_reducible repeat (first | apply Kd.R_alloc | apply Kd.R_drewN | apply Kd.R_drew)); exact HO142.out) (Kd.R_typed HO_133004.out) (by decide) hg); have n6_ := Aside0.mk ((by rw [hw]; exact below_set (HB.out) GB36.out : Below w.heap.size w w47)); clear HO_133003; clear HO_133004; clear BK122; clear BK123; clear BK132; clear HO142; clear HB; have HO_133003 := n0_; have HO_133004 := n1_; have BK122 := n2_; have BK123 := n3_; have BK132 := n4_; have HO142 := n5_; have HB := n6_; clear n0_ n1_ n2_ n3_ n4_ n5_ n6_; clear hg hw hp_; have p37 : 0 ≤ (x21_1 : Int) := of_decide_eq_true (by first | (with_reducible assumption) | assumption); have q37 : (x21_1 : Int) < ((x133004_1.length : Int) : Int) := of_decide_eq_true (by first | (with_reducible assumption) | assumption); obtain ⟨ce37, hcl37, hM37, hcc37, hfr37⟩ := Kd.R_elem HO_133004.out z50 (x21_1 : Int) p37 q37; obtain rfl := k50_openM hM37; have hx37_0 : w47.cell? ⟨go36, (x21_1 : Int).toNat * 5, none⟩ = some (.int .i64 ((rd_T50 y144 x21_1).f0)) := hcc37 0 _ rfl; have hx37_1 : w47.cell? ⟨go36, (x21_1 : Int).toNat * 5 + 1, none⟩ = some (.int .i64 ((rd_T50 y144 x21_1).f1)) := hcc37 1 _ rfl; have hx37_2 : w47.cell? ⟨go36, (x21_1 : Int).toNat * 5 + 2, none⟩ = some (.int .i64 ((rd_T50 y144 x21_1).f2)) := hcc37 2 _ rfl; have hx37_3 : w47.cell? ⟨go36, (x21_1 : Int).toNat * 5 + 3, none⟩ = some (.int .i64 ((rd_T50 y144 x21_1).f3)) := hcc37 3 _ rfl; have hx37_4 : w47.cell? ⟨go36, (x21_1 : Int).toNat * 5 + 4, none⟩ = some (.bool ((rd_T50 y144 x21_1).f4)) := hcc37 4 _ rfl; have hf37_0 : w47.frozen? ⟨go36, (x21_1 : Int).toNat * 5, none⟩ = false := hfr37 0; have hf37_1 : w47.frozen? ⟨go36, (x21_1 : Int).toNat * 5 + 1, none⟩ = false := hfr37 1; have hf37_2 : w47.frozen? ⟨go36, (x21_1 : Int).toNat * 5 + 2, none⟩ = false := hfr37 2; have hf37_3 : w47.frozen? ⟨go36, (x21_1 : Int).toNat * 5 + 3, none⟩ = false := hfr37 3; have hf37_4 : w47.frozen? ⟨go36, (x21_1 : Int).toNat * 5 + 4, none⟩ = false := hfr37 4; clear hcl37 hcc37 hfr37 hM37; replace p37 := eq_true p37; replace q37 := eq_true q37; have HX48 := Aside0.mk (show Kd.R k50 50 w47 w.heap.size (fun _ => True) (.slice (some ⟨go36, 0, none⟩) x133004_1.length co42) y144 from (by (with_reducible repeat (first | apply Kd.R_alloc | apply Kd.R_drewN | apply Kd.R_drew)); exact HO_133004.out)); obtain ⟨ce48, hcl48, hM48, hcc48, hfr48⟩ := Kd.R_elem HX48.out z50 (x21_1 : Int) (of_decide_eq_true (by first | (with_reducible assumption) | assumption)) (by have h_ : (x21_1 : Int) < ((x133004_1.length : Int) : Int) := of_decide_eq_true (by first | (with_reducible assumption) | assumption); first | exact h_ | (have e_ := (Kd.R_reads' HO_133004.out).1; omega) | simpa using h_); obtain rfl := k50_openM hM48; have HP48 := Kd.R_seg HX48.out (x21_1 : Int) (of_decide_eq_true (by first | (with_reducible assumption) | assumption)) (by have h_ : (x21_1 : Int) < ((x133004_1.length : Int) : Int) := of_decide_eq_true (by first | (with_reducible assumption) | assumption); first | exact h_ | (have e_ := (Kd.R_reads' HO_133004.out).1; omega) | simpa using h_) (seg := [.int .i64 6]) (j := 1) hcl48 hcc48 (show 2 ≤ 5 from by decide) (x' := (⟨(rd_T50 y144 x21_1).f0, 6, (rd_T50 y144 x21_1).f2, (rd_T50 y144 x21_1).f3, (rd_T50 y144 x21_1).f4⟩ : S50)) (k50_mkM _ _ _ (⟨(rd_T50 y144 x21_1).f0, 6, (rd_T50 y144 x21_1).f2, (rd_T50 y144 x21_1).f3, (rd_T50 y144 x21_1).f4⟩ : S50) ) (fun _ hk => hk); have hx48_1 := hcc48 1 _ rfl; (try simp only [show (k50).sz = 5 from rfl, Nat.mul_one, Nat.add_zero] at hx48_1); have hf48_1 := hfr48 1; (try simp only [show (k50).sz = 5 from rfl, Nat.mul_one, Nat.add_zero] at hf48_1); clear hcl48 hcc48 hfr48 hM48) | ((with_reducible refine gate_store (t := 3) (p := 69) rfl ?_); refine store_event (t := 3) (p := 69) (v := ?vo_w49) (w1 := (w47.setCell ⟨go36, (x21_1 : Int).toNat * 5 + 1, none⟩ (.int .i64 6))) ?hg ?ho ?hn ?hr ?_; (case ho => rfl); (case hg => rfl); (case hn => rfl); (case hr => first | (go_simp; done) | (go_simp; rfl)); intro w49 hw; have hg : w47.grownBy w49 (some go36) := (by rw [hw]; exact HP48.2); have hp_ : Kd.R k50 50 w49 w.heap.size (fun _ => True) (.slice (some ⟨go36, 0, none⟩) x133004_1.length co42) y145 := (by rw [hw, Ny145.out]; exact HP48.1); clear HP48; have n0_ := Aside0.mk (Kd.R_over' (v := (.slice (some ⟨go36, 0, none⟩) x133004_1.length co42)) (by (with_reducible repeat (first | apply Kd.R_alloc | apply Kd.R_drewN | apply Kd.R_drew)); exact HO_133003.out) (Kd.R_typed HO_133004.out) (by decide) hg); have n1_ := Aside0.mk (hp_); have n2_ := Aside0.mk (blk_grown (g := gb122) (o := .cells #[.int .i64 a0_0, .int .i64 a0_1, .int .i64 a0_2, .slice A0_3 l0_3.length c0_3, .slice A0_4 l0_4.length c0_4] 30 (0, 0)) (by (with_reducible repeat (first | refine blk_drewN ?_ _ | refine blk_drew ?_ | refine blk_alloc ?_ _)); exact BK122.out) hg (Kd.R_ne HO_133004.out BK122.out (by decide))); have n3_ := Aside0.mk (blk_grown (g := gb123) (o := .cells #[.int .i64 0, .int .i64 0, .int .i64 0, .slice none 0 0, .slice none 0 0] 30 (0, 0)) (by (with_reducible repeat (first | refine blk_drewN ?_ _ | refine blk_drew ?_ | refine blk_alloc ?_ _)); exact BK123.out) hg (Kd.R_ne HO_133004.out BK123.out (by decide))); have n4_ := Aside0.mk (blk_grown (g := gb132) (o := .cells #[.int .i64 a1, .int .i64 t124, .int .i64 t125, .slice Ao15 t126.length co15, .slice (some ⟨go36, 0, none⟩) x133004_1.length co42] 30 (0, 0)) (by (with_reducible repeat (first | refine blk_drewN ?_ _ | refine blk_drew ?_ | refine blk_alloc ?_ _)); exact BK132.out) hg (Kd.R_ne HO_133004.out BK132.out (by decide))); have n5_ := Aside0.mk (Kd.R_over' (v := (.slice (some ⟨go36, 0, none⟩) x133004_1.length co42)) (by (with_reducible repeat (first | apply Kd.R_alloc | apply Kd.R_drewN | apply Kd.R_drew)); exact HO142.out) (Kd.R_typed HO_133004.out) (by decide) hg); have n6_ := Aside0.mk ((by rw [hw]; exact below_set (HB.out) GB36.out : Below w.heap.size w w49)); clear HO_133003; clear HO_133004; clear BK122; clear BK123; clear BK132; clear HO142; clear HB; have HO_133003 := n0_; have HO_133004 := n1_; have BK122 := n2_; have BK123 := n3_; have BK132 := n4_; have HO142 := n5_; have HB := n6_; clear n0_ n1_ n2_ n3_ n4_ n5_ n6_; clear hg hw hp_; have p38 : 0 ≤ (x21_1 : Int) := of_decide_eq_true (by first | (with_reducible assumption) | assumption); have q38 : (x21_1 : Int) < ((x133004_1.length : Int) : Int) := of_decide_eq_true (by first | (with_reducible assumption) | assumption); obtain ⟨ce38, hcl38, hM38, hcc38, hfr38⟩ := Kd.R_elem HO_133004.out z50 (x21_1 : Int) p38 q38; obtain rfl := k50_openM hM38; have hx38_0 : w49.cell? ⟨go36, (x21_1 : Int).toNat * 5, none⟩ = some (.int .i64 ((rd_T50 y145 x21_1).f0)) := hcc38 0 _ rfl; have hx38_1 : w49.cell? ⟨go36, (x21_1 : Int).toNat * 5 + 1, none⟩ = some (.int .i64 ((rd_T50 y145 x21_1).f1)) := hcc38 1 _ rfl; have hx38_2 : w49.cell? ⟨go36, (x21_1 : Int).toNat * 5 + 2, none⟩ = some (.int .i64 ((rd_T50 y145 x21_1).f2)) := hcc38 2 _ rfl; have hx38_3 : w49.cell? ⟨go36, (x21_1 : Int).toNat * 5 + 3, none⟩ = some (.int .i64 ((rd_T50 y145 x21_1).f3)) := hcc38 3 _ rfl; have hx38_4 : w49.cell? ⟨go36, (x21_1 : Int).toNat * 5 + 4, none⟩ = some (.bool ((rd_T50 y145 x21_1).f4)) := hcc38 4 _ rfl; have hf38_0 : w49.frozen? ⟨go36, (x21_1 : Int).toNat * 5, none⟩ = false := hfr38 0; have hf38_1 : w49.frozen? ⟨go36, (x21_1 : Int).toNat * 5 + 1, none⟩ = false := hfr38 1; have hf38_2 : w49.frozen? ⟨go36, (x21_1 : Int).toNat * 5 + 2, none⟩ = false := hfr38 2; have hf38_3 : w49.frozen? ⟨go36, (x21_1 : Int).toNat * 5 + 3, none⟩ = false := hfr38 3; have hf38_4 : w49.frozen? ⟨go36, (x21_1 : Int).toNat * 5 + 4, none⟩ = false := hfr38 4; clear hcl38 hcc38 hfr38 hM38; replace p38 := eq_true p38; replace q38 := eq_true q38; have HX50 := Aside0.mk (show Kd.R k50 50 w49 w.heap.size (fun _ => True) (.slice (some ⟨go36, 0, none⟩) x133004_1.length co42) y145 from (by (with_reducible repeat (first | apply Kd.R_alloc | apply Kd.R_drewN | apply Kd.R_drew)); exact HO_133004.out)); obtain ⟨ce50, hcl50, hM50, hcc50, hfr50⟩ := Kd.R_elem HX50.out z50 (x21_1 : Int) (of_decide_eq_true (by first | (with_reducible assumption) | assumption)) (by have h_ : (x21_1 : Int) < ((x133004_1.length : Int) : Int) := of_decide_eq_true (by first | (with_reducible assumption) | assumption); first | exact h_ | (have e_ := (Kd.R_reads' HO_133004.out).1; omega) | simpa using h_); obtain rfl := k50_openM hM50; have HP50 := Kd.R_seg HX50.out (x21_1 : Int) (of_decide_eq_true (by first | (with_reducible assumption) | assumption)) (by have h_ : (x21_1 : Int) < ((x133004_1.length : Int) : Int) := of_decide_eq_true (by first | (with_reducible assumption) | assumption); first | exact h_ | (have e_ := (Kd.R_reads' HO_133004.out).1; omega) | simpa using h_) (seg := [.int .i64 0]) (j := 2) hcl50 hcc50 (show 3 ≤ 5 from by decide) (x' := (⟨(rd_T50 y145 x21_1).f0, (rd_T50 y145 x21_1).f1, 0, (rd_T50 y145 x21_1).f3, (rd_T50 y145 x21_1).f4⟩ : S50)) (k50_mkM _ _ _ (⟨(rd_T50 y145 x21_1).f0, (rd_T50 y145 x21_1).f1, 0, (rd_T50 y145 x21_1).f3, (rd_T50 y145 x21_1).f4⟩ : S50) ) (fun _ hk => hk); have hx50_2 := hcc50 2 _ rfl; (try simp only [show (k50).sz = 5 from rfl, Nat.mul_one, Nat.add_zero] at hx50_2); have hf50_2 := hfr50 2; (try simp only [show (k50).sz = 5 from rfl, Nat.mul_one, Nat.add_zero] at hf50_2); clear hcl50 hcc50 hfr50 hM50) | ((with_reducible refine gate_store (t := 3) (p := 71) rfl ?_); refine store_event (t := 3) (p := 71) (v := ?vo_w51) (w1 := (w49.setCell ⟨go36, (x21_1 : Int).toNat * 5 + 2, none⟩ (.int .i64 0))) ?hg ?ho ?hn ?hr ?_; (case ho => rfl); (case hg => rfl); (case hn => rfl); (case hr => first | (go_simp; done) | (go_simp; rfl)); intro w51 hw; have hg : w49.grownBy w51 (some go36) := (by rw [hw]; exact HP50.2); have hp_ : Kd.R k50 50 w51 w.heap.size (fun _ => True) (.slice (some ⟨go36, 0, none⟩) x133004_1.length co42) y146 := (by rw [hw, Ny146.out]; exact HP50.1); clear HP50; have n0_ := Aside0.mk (Kd.R_over' (v := (.slice (some ⟨go36, 0, none⟩) x133004_1.length co42)) (by (with_reducible repeat (first | apply Kd.R_alloc | apply Kd.R_drewN | apply Kd.R_drew)); exact HO_133003.out) (Kd.R_typed HO_133004.out) (by decide) hg); have n1_ := Aside0.mk (hp_); have n2_ := Aside0.mk (blk_grown (g := gb122) (o := .cells #[.int .i64 a0_0, .int .i64 a0_1, .int .i64 a0_2, .slice A0_3 l0_3.length c0_3, .slice A0_4 l0_4.length c0_4] 30 (0, 0)) (by (with_reducible repeat (first | refine blk_drewN ?_ _ | refine blk_drew ?_ | refine blk_alloc ?_ _)); exact BK122.out) hg (Kd.R_ne HO_133004.out BK122.out (by decide))); have n3_ := Aside0.mk (blk_grown (g := gb123) (o := .cells #[.int .i64 0, .int .i64 0, .int .i64 0, .slice none 0 0, .slice none 0 0] 30 (0, 0)) (by (with_reducible repeat (first | refine blk_drewN ?_ _ | refine blk_drew ?_ | refine blk_alloc ?_ _)); exact BK123.out) hg (Kd.R_ne HO_133004.out BK123.out (by decide))); have n4_ := Aside0.mk (blk_grown (g := gb132) (o := .cells #[.int .i64 a1, .int .i64 t124, .int .i64 t125, .slice Ao15 t126.length co15, .slice (some ⟨go36, 0, none⟩) x133004_1.length co42] 30 (0, 0)) (by (with_reducible repeat (first | refine blk_drewN ?_ _ | refine blk_drew ?_ | refine blk_alloc ?_ _)); exact BK132.out) hg (Kd.R_ne HO_133004.out BK132.out (by decide))); have n5_ := Aside0.mk (Kd.R_over' (v := (.slice (some ⟨go36, 0, none⟩) x133004_1.length co42)) (by (with_reducible repeat (first | apply Kd.R_alloc | apply Kd.R_drewN | apply Kd.R_drew)); exact HO142.out) (Kd.R_typed HO_133004.out) (by decide) hg); have n6_ := Aside0.mk ((by rw [hw]; exact below_set (HB.out) GB36.out : Below w.heap.size w w51)); clear HO_133003; clear HO_133004; clear BK122; clear BK123; clear BK132; clear HO142; clear HB; have HO_133003 := n0_; have HO_133004 := n1_; have BK122 := n2_; have BK123 := n3_; have BK132 := n4_; have HO142 := n5_; have HB := n6_; clear n0_ n1_ n2_ n3_ n4_ n5_ n6_; clear hg hw hp_))
         go_roundg k1
         case measure => have := HK1.out; omega
         case rel => exact ⟨(y140), (wrap64 (x21_1 + 1)), (y146), (.slice (some ⟨go36, 0, none⟩) x133004_1.length co42), (by first | rfl | (simp; done) | (simp [*]; done)), H', ⟨by have := HK1.out; omega⟩, ⟨by (with_reducible repeat (first | apply Kd.R_alloc | apply Kd.R_drewN | apply Kd.R_drew)); exact HO142.out⟩, ⟨by (with_reducible repeat (first | apply Kd.R_alloc | apply Kd.R_drewN | apply Kd.R_drew)); exact HO_133003.out⟩, ⟨by (with_reducible repeat (first | apply Kd.R_alloc | apply Kd.R_drewN | apply Kd.R_drew)); exact HO_133004.out⟩, ⟨by (with_reducible repeat (first | refine blk_drewN ?_ _ | refine blk_drew ?_ | refine blk_alloc ?_ _)); exact BK122.out⟩, ⟨by (with_reducible repeat (first | refine blk_drewN ?_ _ | refine blk_drew ?_ | refine blk_alloc ?_ _)); exact BK123.out⟩, ⟨by (with_reducible repeat (first | refine blk_drewN ?_ _ | refine blk_drew ?_ | refine blk_alloc ?_ _)); exact BK132.out⟩, ⟨pB HB⟩⟩
        ·rw [if_neg c35] at H
         exact absurd H (by simp)
      ·replace c28 := Bool.eq_false_iff.mpr c28
       subst c28
       have H1 : (docket_advance.l0 k1 a1 x7_1 (t129.length : Int) (wrap64 (x21_1 + 1)) a1 t124 t125 t126 x133004_1) = some (r1, r2, r3, r4, r5, r6) := by rw [if_neg (show ¬ (false = true) by decide)] at H; exact H
       clear H
       have H := H1
       clear H1
       have H' := Aside0.mk H
       clear H
       have hnb52 := NB132_122.out
       have hnc52 := NB122_132.out
       have hnb53 := NB132_123.out
       have hnc53 := NB123_132.out
       obtain ⟨hcz54_0, hcz54_1, hcz54_2, hcz54_3, hcz54_4⟩ := cells5 BK132
       obtain ⟨hfz54_0, hfz54_1, hfz54_2, hfz54_3, hfz54_4⟩ := frz5 BK132
       obtain ⟨Ao55, co55, eo55⟩ := Kd.R_slice HO_133004.out
       subst eo55
       have p133 : 0 ≤ (x21_1 : Int) := of_decide_eq_true (by first | (with_reducible assumption) | assumption)
       have q133 : x21_1 < (x133004_1.length : Int) := of_decide_eq_true (by first | (with_reducible assumption) | assumption)
       obtain ⟨Aq53, cq53, eq53⟩ := Kd.R_slice HO_133004.out
       (first | subst eq53 | clear eq53)
       obtain ⟨ad133, e133, hx133_0, hx133_1, hx133_2, hx133_3, hx133_4⟩ := at_T50 (Kd.R_reads' HO_133004.out).2.2 x21_1 p133 q133
       cases e133
       replace p133 := eq_true p133
       replace q133 := eq_true q133
       have p134 : 0 ≤ (x21_1 : Int) := of_decide_eq_true (by first | (with_reducible assumption) | assumption)
       have q134 : x21_1 < (x133004_1.length : Int) := of_decide_eq_true (by first | (with_reducible assumption) | assumption)
       obtain ⟨Aq54, cq54, eq54⟩ := Kd.R_slice HO_133004.out
       (first | subst eq54 | clear eq54)
       obtain ⟨ad134, e134, hx134_0, hx134_1, hx134_2, hx134_3, hx134_4⟩ := at_T50 (Kd.R_reads' HO_133004.out).2.2 x21_1 p134 q134
       obtain rfl : ad133 = ad134 := (by injection e134)
       replace p134 := eq_true p134
       replace q134 := eq_true q134
       go_wp2_with (first | ((with_reducible refine gate_callee (f := 42) rfl ?_); refine goesL_ (some 31) rfl rfl Try.func42 (by kernel_rfl) rfl #[.agg #[.int .i64 ((rd_T50 x133004_1 x21_1).f0), .int .i64 ((rd_T50 x133004_1 x21_1).f1), .int .i64 ((rd_T50 x133004_1 x21_1).f2), .int .i64 ((rd_T50 x133004_1 x21_1).f3), .bool ((rd_T50 x133004_1 x21_1).f4)]] rfl (by (try simp only [List.map_toArray, List.map_cons, List.map_nil]); first | done | rfl | (simp only [List.length_drop, List.length_take]; rfl)) ?_; (with_reducible refine (docket_running.calls ((rd_T50 x133004_1 x21_1).f0) ((rd_T50 x133004_1 x21_1).f1) ((rd_T50 x133004_1 x21_1).f2) ((rd_T50 x133004_1 x21_1).f3) ((rd_T50 x133004_1 x21_1).f4) false _ A27.out).mono ?_); rintro e w56 ⟨rfl, hb⟩; refine ⟨_, rfl, ?_⟩; have n0_ := rB HO_7 hb; have n1_ := rB HO_133003 hb; have n2_ := rB HO_133004 hb; have n3_ := bB BK122 hb; have n4_ := bB BK123 hb; have n5_ := bB BK132 hb; have n6_ := Aside0.mk (below_step (pB HB) hb); clear HO_7; clear HO_133003; clear HO_133004; clear BK122; clear BK123; clear BK132; clear HB; have HO_7 := n0_; have HO_133003 := n1_; have HO_133004 := n2_; have BK122 := n3_; have BK123 := n4_; have BK132 := n5_; have HB := n6_; clear n0_ n1_ n2_ n3_ n4_ n5_ n6_; (try clear hb); (try clear hb2); (try clear hk); (try clear hi)))
       go_roundg k1
       case measure => have := HK1.out; omega
       case rel => exact ⟨(x7_1), (wrap64 (x21_1 + 1)), (x133004_1), (.slice (some ad133) x133004_1.length co55), (by first | rfl | (simp; done) | (simp [*]; done)), H', ⟨by have := HK1.out; omega⟩, ⟨by (with_reducible repeat (first | apply Kd.R_alloc | apply Kd.R_drewN | apply Kd.R_drew)); exact HO_7.out⟩, ⟨by (with_reducible repeat (first | apply Kd.R_alloc | apply Kd.R_drewN | apply Kd.R_drew)); exact HO_133003.out⟩, ⟨by (with_reducible repeat (first | apply Kd.R_alloc | apply Kd.R_drewN | apply Kd.R_drew)); exact HO_133004.out⟩, ⟨by (with_reducible repeat (first | refine blk_drewN ?_ _ | refine blk_drew ?_ | refine blk_alloc ?_ _)); exact BK122.out⟩, ⟨by (with_reducible repeat (first | refine blk_drewN ?_ _ | refine blk_drew ?_ | refine blk_alloc ?_ _)); exact BK123.out⟩, ⟨by (with_reducible repeat (first | refine blk_drewN ?_ _ | refine blk_drew ?_ | refine blk_alloc ?_ _)); exact BK132.out⟩, ⟨pB HB⟩⟩
     ·rw [if_neg c26] at H
      exact absurd H (by simp)
    ·rw [if_neg c25] at H
     exact absurd H (by simp)
   ·rw [if_neg c24] at H
    have c24b0 : decide (x21_1 < (t129.length : Int)) = false := decide_eq_false c24
    clear c24
    replace H := Option.bind_eq_some_iff.mp H
    obtain ⟨t147, A570, H⟩ := H
    replace H : (some (a1, t124, t125, t126, x133004_1, t147)) = some (r1, r2, r3, r4, r5, r6) := H
    have A57 := Aside0.mk A570
    clear A570
    simp only [Option.some.injEq, Prod.mk.injEq] at H
    obtain ⟨rfl, rfl, rfl, rfl, rfl, rfl⟩ := H
    obtain ⟨Ao58, co58, eo58⟩ := Kd.R_slice HO_7.out
    subst eo58
    go_wp2_with (first | ((with_reducible refine gate_callee (f := 51) rfl ?_); refine goesL_ (some 74) rfl rfl Try.func51 (by kernel_rfl) rfl #[.slice Ao58 x7_1.length co58, .func (.func 52) #[] #[]] rfl (by (try simp only [List.map_toArray, List.map_cons, List.map_nil]); first | done | rfl | (simp only [List.length_drop, List.length_take]; rfl)) ?_; (with_reducible refine (sortRulings.calls (fun k_ => some k_ = (.slice Ao58 x7_1.length co58 : Value).ownBlock) (.slice Ao58 x7_1.length co58) x7_1  t147 w _ ?side1 ?side2 A57.out).mono ?_); (case side1 => repeat (first | (with_reducible first | exact HB.out | apply below_alloc | apply pw_below_drewN | apply below_drew1 | refine below_set ?_ GE122.out | refine below_set ?_ GE123.out | refine below_set ?_ GE132.out) | exact HB.out)); (case side2 => exact Kd.R_tight rfl HO_7.out); rintro e w59 ⟨rfl, hy0, hb, hkp⟩; refine ⟨_, rfl, ?_⟩; have n0_ := Aside0.mk (Kd.R_reok rfl hy0 (fun k_ e_ => HO_7.out.1 k_ e_)); have n1_ := Aside0.mk (Kd.R_mono (ok' := fun k_ => True) (Kd.R_keptB ((Kd.R_apart' HO_133003.out (Kd.R_typed HO_7.out) (by decide))) hkp (fun k_ hk_ hs_ => (hk_.2) hs_)) (fun k_ hk_ => trivial)); have n2_ := Aside0.mk (Kd.R_mono (ok' := fun k_ => True) (Kd.R_keptB ((Kd.R_apart' HO_133004.out (Kd.R_typed HO_7.out) (by decide))) hkp (fun k_ hk_ hs_ => (hk_.2) hs_)) (fun k_ hk_ => trivial)); have n3_ := Aside0.mk (blk_kept (by (with_reducible repeat (first | refine blk_drewN ?_ _ | refine blk_drew ?_ | refine blk_alloc ?_ _)); exact BK122.out) hkp (fun hs_ => (fun e_ => (Kd.R_ne HO_7.out BK122.out (by decide)) e_) hs_)); have n4_ := Aside0.mk (blk_kept (by (with_reducible repeat (first | refine blk_drewN ?_ _ | refine blk_drew ?_ | refine blk_alloc ?_ _)); exact BK123.out) hkp (fun hs_ => (fun e_ => (Kd.R_ne HO_7.out BK123.out (by decide)) e_) hs_)); have n5_ := Aside0.mk (blk_kept (by (with_reducible repeat (first | refine blk_drewN ?_ _ | refine blk_drew ?_ | refine blk_alloc ?_ _)); exact BK132.out) hkp (fun hs_ => (fun e_ => (Kd.R_ne HO_7.out BK132.out (by decide)) e_) hs_)); have n6_ := Aside0.mk (hb); clear HO_7; clear HO_133003; clear HO_133004; clear BK122; clear BK123; clear BK132; clear HB; have HO_7 := n0_; have HO_133003 := n1_; have HO_133004 := n2_; have BK122 := n3_; have BK123 := n4_; have BK132 := n5_; have HB := n6_; clear n0_ n1_ n2_ n3_ n4_ n5_ n6_; (try clear hb); (try clear hkp); (try clear hy0); have hnb60 := NB132_122.out; have hnc60 := NB122_132.out; have hnb61 := NB132_123.out; have hnc61 := NB123_132.out; obtain ⟨hcz62_0, hcz62_1, hcz62_2, hcz62_3, hcz62_4⟩ := cells5 BK132; obtain ⟨hfz62_0, hfz62_1, hfz62_2, hfz62_3, hfz62_4⟩ := frz5 BK132; have hnb63 := NB123_122.out; have hnc63 := NB122_123.out; obtain ⟨hcz64_0, hcz64_1, hcz64_2, hcz64_3, hcz64_4⟩ := cells5 BK123; obtain ⟨hfz64_0, hfz64_1, hfz64_2, hfz64_3, hfz64_4⟩ := frz5 BK123; obtain ⟨Ao65, co65, eo65⟩ := Kd.R_slice HO_133004.out; subst eo65))
    refine bodyPost_ret (results_ct rfl _ _ gb123 30 #[.int .i64 a1, .int .i64 t124, .int .i64 t125, .slice Ao15 t126.length co15, .slice Ao65 x133004_1.length co65] (0, 0) _ rfl (by (with_reducible repeat (first | refine blk_drewN ?_ _ | refine blk_drew ?_ | refine blk_alloc ?_ _)); refine blk_put (cs := #[.int .i64 a1, .int .i64 t124, .int .i64 t125, .slice Ao15 t126.length co15, .slice none 0 0]) ?_ 4 _ rfl; (with_reducible repeat (first | refine blk_drewN ?_ _ | refine blk_drew ?_ | refine blk_alloc ?_ _)); refine blk_put (cs := #[.int .i64 a1, .int .i64 t124, .int .i64 t125, .slice none 0 0, .slice none 0 0]) ?_ 3 _ rfl; (with_reducible repeat (first | refine blk_drewN ?_ _ | refine blk_drew ?_ | refine blk_alloc ?_ _)); refine blk_put (cs := #[.int .i64 a1, .int .i64 t124, .int .i64 0, .slice none 0 0, .slice none 0 0]) ?_ 2 _ rfl; (with_reducible repeat (first | refine blk_drewN ?_ _ | refine blk_drew ?_ | refine blk_alloc ?_ _)); refine blk_put (cs := #[.int .i64 a1, .int .i64 0, .int .i64 0, .slice none 0 0, .slice none 0 0]) ?_ 1 _ rfl; (with_reducible repeat (first | refine blk_drewN ?_ _ | refine blk_drew ?_ | refine blk_alloc ?_ _)); refine blk_put (cs := #[.int .i64 0, .int .i64 0, .int .i64 0, .slice none 0 0, .slice none 0 0]) ?_ 0 _ rfl; (with_reducible repeat (first | refine blk_drewN ?_ _ | refine blk_drew ?_ | refine blk_alloc ?_ _)); exact BK123.out) Try.underlying30 rfl (by kernel_rfl)) rfl ?_
    exact ⟨_, _, _, by first | rfl | (simp [errW_none, errW_some] <;> rfl) | (simp [*, errW_none, errW_some] <;> rfl), by (with_reducible repeat (first | apply Kd.R_alloc | apply Kd.R_drewN | apply Kd.R_drew)); exact Kd.R_mono (Kd.R_far (p := ⟨gb123, 4, none⟩) (Kd.R_far (p := ⟨gb123, 3, none⟩) (Kd.R_far (p := ⟨gb123, 2, none⟩) (Kd.R_far (p := ⟨gb123, 1, none⟩) (Kd.R_far (p := ⟨gb123, 0, none⟩) (Kd.R_types HO_133003.out BK123.out (by decide)) (fun _ hk => hk.2) (.int .i64 a1)) (fun _ hk => hk.2) (.int .i64 t124)) (fun _ hk => hk.2) (.int .i64 t125)) (fun _ hk => hk.2) (.slice Ao15 t126.length co15)) (fun _ hk => hk.2) (.slice Ao65 x133004_1.length co65)) (fun _ hk => trivial), by (with_reducible repeat (first | apply Kd.R_alloc | apply Kd.R_drewN | apply Kd.R_drew)); exact Kd.R_mono (Kd.R_far (p := ⟨gb123, 4, none⟩) (Kd.R_far (p := ⟨gb123, 3, none⟩) (Kd.R_far (p := ⟨gb123, 2, none⟩) (Kd.R_far (p := ⟨gb123, 1, none⟩) (Kd.R_far (p := ⟨gb123, 0, none⟩) (Kd.R_types HO_133004.out BK123.out (by decide)) (fun _ hk => hk.2) (.int .i64 a1)) (fun _ hk => hk.2) (.int .i64 t124)) (fun _ hk => hk.2) (.int .i64 t125)) (fun _ hk => hk.2) (.slice Ao15 t126.length co15)) (fun _ hk => hk.2) (.slice Ao65 x133004_1.length co65)) (fun _ hk => trivial), by (with_reducible repeat (first | apply Kd.R_alloc | apply Kd.R_drewN | apply Kd.R_drew)); exact Kd.R_mono (Kd.R_far (p := ⟨gb123, 4, none⟩) (Kd.R_far (p := ⟨gb123, 3, none⟩) (Kd.R_far (p := ⟨gb123, 2, none⟩) (Kd.R_far (p := ⟨gb123, 1, none⟩) (Kd.R_far (p := ⟨gb123, 0, none⟩) (Kd.R_types HO_7.out BK123.out (by decide)) (fun _ hk => hk.2) (.int .i64 a1)) (fun _ hk => hk.2) (.int .i64 t124)) (fun _ hk => hk.2) (.int .i64 t125)) (fun _ hk => hk.2) (.slice Ao15 t126.length co15)) (fun _ hk => hk.2) (.slice Ao65 x133004_1.length co65)) (fun _ hk => trivial), pB HB⟩

end Go.Proofs.Ytpfiecjacpbhkaa.D

/- What the Go functions named below come to, each told as_ a Lean function ('.f'), with the proof ('.calls'): no condition beyond those that each theorem states. Written by a program of this session's over the translation. -/
namespace Go.Proofs.Ytpfiecjacpbhkaa.D
open Go.RowKit Go.Proofs.YtpfiecjacpbhkaaW.PrintWords Go.Proofs.YtpfiecjacpbhkaaW.PrintLast Go.Proofs.YtpfiecjacpbhkaaW.PrintMore
attribute [local go_sem] max2_int min2_int max_two min_two max_three min_three max_four min_four   -- for this text's walks alone
set_option linter.unusedVariables false
set_option linter.unusedSimpArgs false

/-! ### docket_Advance: function 13 -/
def docket_Advance.j0 : Nat → Int → Bool → Int → Int → Int → List Int → List (S50) → Option (Int × Int × Int × List Int × (List (S50)) × (List (S52)) × Int)
 | 0, _, _, _, _, _, _, _ => none
 | k + 1, x1, x21, x149000, x149001, x149002, x149003, x149004 => if x21 = true then (some (0, 0, 0, ([] : List Int), ([] : List (S50)), ([] : List (S52)), 1)) else (if x1 < x149000 then (some (0, 0, 0, ([] : List Int), ([] : List (S50)), ([] : List (S52)), 15)) else ((docket_advance.f k x149000 x149001 x149002 x149003 x149004 x1).bind fun bt151 => (some (bt151.1, bt151.2.1, bt151.2.2.1, bt151.2.2.2.1, bt151.2.2.2.2.1, bt151.2.2.2.2.2, 0))))
def docket_Advance.f (k : Nat) (a0_0 : Int) (a0_1 : Int) (a0_2 : Int) (l0_3 : List Int) (l0_4 : List (S50)) (a1 : Int) : Option (Int × Int × Int × List Int × (List (S50)) × (List (S52)) × Int) := (docket_Check.f k a0_0 a0_1 a0_2 l0_3 l0_4).bind fun t150 => (if t150 = 0 then (if a1 < 0 then (docket_Advance.j0 k a1 true a0_0 a0_1 a0_2 l0_3 l0_4) else (docket_Advance.j0 k a1 (decide (a1 > 1048576)) a0_0 a0_1 a0_2 l0_3 l0_4)) else (some (0, 0, 0, ([] : List Int), ([] : List (S50)), ([] : List (S52)), t150)))
theorem docket_Advance.mono_l : ∀ k, (∀ y0 y1 y2 y3 y4 y5 y6, LeO (docket_Advance.j0 k y0 y1 y2 y3 y4 y5 y6) (docket_Advance.j0 (k + 1) y0 y1 y2 y3 y4 y5 y6))
 | 0 => fun _ _ _ _ _ _ _ r h => by simp [docket_Advance.j0] at h
 | k + 1 => by
  have ih0 := docket_Advance.mono_l k
  ·intro y0 y1 y2 y3 y4 y5 y6
   unfold docket_Advance.j0
   repeat' first
   | (with_reducible exact ih0 _ _ _ _ _ _ _)
   | (with_reducible exact docket_Check.mono _ _ _ _ _ _)
   | (with_reducible exact docket_advance.mono _ _ _ _ _ _ _)
   | (with_reducible exact LeO.refl _)
   | (with_reducible exact LeO.none _)
   | (with_reducible refine LeO.ite ?_ ?_)
   | (with_reducible refine LeO.bind ?_ (fun _ => ?_))
   | exact ih0 _ _ _ _ _ _ _
   | exact docket_Check.mono _ _ _ _ _ _
   | exact docket_advance.mono _ _ _ _ _ _ _
   | exact LeO.none _
   | refine LeO.ite ?_ ?_
   | refine LeO.bind ?_ (fun _ => ?_)
theorem docket_Advance.mono : ∀ a0 a1 a2 a3 a4 a5 k, LeO (docket_Advance.f k a0 a1 a2 a3 a4 a5) (docket_Advance.f (k + 1) a0 a1 a2 a3 a4 a5) := by
 intro a0 a1 a2 a3 a4 a5 k
 have ih0 := docket_Advance.mono_l k
 unfold docket_Advance.f
 repeat' first
   | (with_reducible exact ih0 _ _ _ _ _ _ _)
   | (with_reducible exact docket_Check.mono _ _ _ _ _ _)
   | (with_reducible exact docket_advance.mono _ _ _ _ _ _ _)
   | (with_reducible exact LeO.refl _)
   | (with_reducible exact LeO.none _)
   | (with_reducible refine LeO.ite ?_ ?_)
   | (with_reducible refine LeO.bind ?_ (fun _ => ?_))
   | exact ih0 _ _ _ _ _ _ _
   | exact docket_Check.mono _ _ _ _ _ _
   | exact docket_advance.mono _ _ _ _ _ _ _
   | exact LeO.none _
   | refine LeO.ite ?_ ?_
   | refine LeO.bind ?_ (fun _ => ?_)
set_option maxHeartbeats 8000000 in
set_option maxRecDepth 100000 in
theorem docket_Advance.calls (k : Nat) (a0_0 : Int) (a0_1 : Int) (a0_2 : Int) (A0_3 : Option Addr) (c0_3 : Nat) (l0_3 : List Int) (A0_4 : Option Addr) (c0_4 : Nat) (l0_4 : List (S50)) (a1 : Int) (r1 : Int) (r2 : Int) (r3 : Int) (r4 : List Int) (r5 : List (S50)) (r6 : List (S52)) (r7 : Int) (w : World) (hr0_3 : Kd.C (Kd.int .i64) w A0_3 l0_3.length l0_3) (hc0_3 : l0_3.length ≤ c0_3) (hr0_4 : Kd.C k50 w A0_4 l0_4.length l0_4) (hc0_4 : l0_4.length ≤ c0_4) (h : docket_Advance.f k a0_0 a0_1 a0_2 l0_3 l0_4 a1 = some (r1, r2, r3, r4, r5, r6, r7)) :
  Calls Try.prog 13 #[.agg #[.int .i64 a0_0, .int .i64 a0_1, .int .i64 a0_2, .slice A0_3 l0_3.length c0_3, .slice A0_4 l0_4.length c0_4], .int .i64 a1] w fun e w' => ∃ v3_ v4_ v5_ : Value, e = .returned (.tuple #[.agg #[.int .i64 r1, .int .i64 r2, .int .i64 r3, v3_, v4_], v5_, .int .i64 r7]) ∧ Kd.R (Kd.int .i64) 3 w' w.heap.size (fun _ => True) v3_ r4 ∧ Kd.R k50 50 w' w.heap.size (fun _ => True) v4_ r5 ∧ Kd.R k52 52 w' w.heap.size (fun _ => True) v5_ r6 ∧ Below w.heap.size w w' := by
 have hu30 := Try.underlying30
 have HR0_3 := Aside0.mk hr0_3
 have HC0_3 := Aside0.mk hc0_3
 clear hr0_3 hc0_3
 have HR0_4 := Aside0.mk hr0_4
 have HC0_4 := Aside0.mk hc0_4
 clear hr0_4 hc0_4
 have HB := Aside0.mk (Below.refl w.heap.size w)
 have H : ((docket_Check.f k a0_0 a0_1 a0_2 l0_3 l0_4).bind fun t150 => (if t150 = 0 then (if a1 < 0 then (docket_Advance.j0 k a1 true a0_0 a0_1 a0_2 l0_3 l0_4) else (docket_Advance.j0 k a1 (decide (a1 > 1048576)) a0_0 a0_1 a0_2 l0_3 l0_4)) else (some (0, 0, 0, ([] : List Int), ([] : List (S50)), ([] : List (S52)), t150)))) = some (r1, r2, r3, r4, r5, r6, r7) := h
 clear h
 replace H := Option.bind_eq_some_iff.mp H
 obtain ⟨t150, A30, H⟩ := H
 replace H : (if t150 = 0 then (if a1 < 0 then (docket_Advance.j0 k a1 true a0_0 a0_1 a0_2 l0_3 l0_4) else (docket_Advance.j0 k a1 (decide (a1 > 1048576)) a0_0 a0_1 a0_2 l0_3 l0_4)) else (some (0, 0, 0, ([] : List Int), ([] : List (S50)), ([] : List (S52)), t150))) = some (r1, r2, r3, r4, r5, r6, r7) := H
 have A3 := Aside0.mk A30
 clear A30
 by_cases c4 : t150 = 0
 ·rw [if_pos c4] at H
  have c4b0 : (t150 == 0) = true := beq_iff_eq.mpr c4
  have c4b1 : (t150 != 0) = false := bne_eq_false_iff_eq.mpr c4
  clear c4
  have HC5 := Aside0.mk H
  clear H
  go_enter Try.func13, Try.ntmps13
  go_upto_region 4 with (first | ((with_reducible refine gate_dst (N := 2) rfl ?_); refine boxE (N := 2) #[.int .i64 a0_0, .int .i64 a0_1, .int .i64 a0_2, .slice A0_3 l0_3.length c0_3, .slice A0_4 l0_4.length c0_4] 30 ?_; intro gb148 hg w6 hbox hb; have BK148 := Aside0.mk (hbox); have GW148 := gS HB hg; have GE148 := gS HB hg; replace HB := Aside0.mk (below_step (pB HB) hb); clear hb hbox hg) | ((with_reducible refine gate_dst (N := 4) rfl ?_); refine boxE (N := 4) #[.int .i64 0, .int .i64 0, .int .i64 0, .slice none 0 0, .slice none 0 0] 30 ?_; intro gb149 hg w7 hbox hb; have BK149 := Aside0.mk (hbox); have GW149 := gS HB hg; have GE149 := gS HB hg; have NB148_149 := nL BK148 hg; have NB149_148 := nG BK148 hg; replace BK148 := bB BK148 hb; replace HB := Aside0.mk (below_step (pB HB) hb); clear hb hbox hg; have hnb8 := NB148_149.out; have hnc8 := NB149_148.out; obtain ⟨hcz9_0, hcz9_1, hcz9_2, hcz9_3, hcz9_4⟩ := cells5 BK148; obtain ⟨hfz9_0, hfz9_1, hfz9_2, hfz9_3, hfz9_4⟩ := frz5 BK148) | ((with_reducible refine gate_callee (f := 21) rfl ?_); refine goesL_ (some 11) rfl rfl Try.func21 (by kernel_rfl) rfl #[.agg #[.int .i64 a0_0, .int .i64 a0_1, .int .i64 a0_2, .slice A0_3 l0_3.length c0_3, .slice A0_4 l0_4.length c0_4]] rfl (by (try simp only [List.map_toArray, List.map_cons, List.map_nil]); first | done | rfl | (simp only [List.length_drop, List.length_take]; rfl)) ?_; (with_reducible refine (docket_Check.calls k a0_0 a0_1 a0_2 _ _ l0_3 _ _ l0_4 t150 _ ?side1 ?side2 ?side3 ?side4 A3.out).mono ?_); (case side1 => exact cB HR0_3 HB); (case side2 => exact HC0_3.out); (case side3 => exact cB HR0_4 HB); (case side4 => exact HC0_4.out); rintro e w10 ⟨rfl, hb⟩; refine ⟨_, rfl, ?_⟩; replace BK148 := bB BK148 hb; replace BK149 := bB BK149 hb; replace HB := Aside0.mk (below_step (pB HB) hb); (try clear hb)))
  (try simp only [Act.put, List.setIfInBounds_toArray, List.set_cons_zero, List.set_cons_succ])
  go_cut [21] (fun v21 wc => ∃ (kq : Nat) (x21_4 : Bool), v21 = .bool x21_4 ∧ Aside0 (docket_Advance.j0 kq a1 x21_4 a0_0 a0_1 a0_2 l0_3 l0_4 = some (r1, r2, r3, r4, r5, r6, r7)) ∧ Aside0 (kq ≤ k) ∧ Aside0 (wc.heap[gb148]? = some (.cells #[.int .i64 a0_0, .int .i64 a0_1, .int .i64 a0_2, (.slice A0_3 l0_3.length c0_3), (.slice A0_4 l0_4.length c0_4)] 30 (0, 0))) ∧ Aside0 (wc.heap[gb149]? = some (.cells #[.int .i64 0, .int .i64 0, .int .i64 0, (.slice none 0 0), (.slice none 0 0)] 30 (0, 0))) ∧ Aside0 (Below w.heap.size w wc))
  case first =>
   have H := HC5.out
   clear HC5
   by_cases c11 : a1 < 0
   ·rw [if_pos c11] at H
    have c11b0 : decide (a1 < 0) = true := decide_eq_true c11
    clear c11
    (first | rw [c11b0] | (simp only [i64_w, i32_w]; rw [c11b0]) | skip)
    have H' := Aside0.mk H
    clear H
    go_wp2
    go_meet
    case rel => exact ⟨_, (true), (by first | rfl | (simp; done) | (simp [*]; done)), H', ⟨by first | omega | exact Nat.le_refl _⟩, ⟨by (with_reducible repeat (first | refine blk_drewN ?_ _ | refine blk_drew ?_ | refine blk_alloc ?_ _)); exact BK148.out⟩, ⟨by (with_reducible repeat (first | refine blk_drewN ?_ _ | refine blk_drew ?_ | refine blk_alloc ?_ _)); exact BK149.out⟩, ⟨pB HB⟩⟩
   ·rw [if_neg c11] at H
    have c11b0 : decide (a1 < 0) = false := decide_eq_false c11
    clear c11
    (first | rw [c11b0] | (simp only [i64_w, i32_w]; rw [c11b0]) | skip)
    have H' := Aside0.mk H
    clear H
    go_wp2
    go_meet
    case rel => exact ⟨_, (decide (a1 > 1048576)), (by first | rfl | (simp; done) | (simp [*]; done)), H', ⟨by first | omega | exact Nat.le_refl _⟩, ⟨by (with_reducible repeat (first | refine blk_drewN ?_ _ | refine blk_drew ?_ | refine blk_alloc ?_ _)); exact BK148.out⟩, ⟨by (with_reducible repeat (first | refine blk_drewN ?_ _ | refine blk_drew ?_ | refine blk_alloc ?_ _)); exact BK149.out⟩, ⟨pB HB⟩⟩
  case rest =>
   clear HC5
   try clear c1
   try clear c2
   try clear p2
   try clear c4
   try clear c4b0
   try clear c4b1
   try clear c8
   try clear c11
   try clear c11b0
   obtain ⟨kq, x21_4, rfl, HA, HJ4, BK148, BK149, HB⟩ := hcut
   cases kq with
   | zero => exact absurd HA.out (by simp [docket_Advance.j0])
   | succ kj4 =>
    have H := HA.out
    clear HA
    simp only [docket_Advance.j0] at H
    by_cases c12 : x21_4 = true
    ·subst c12
     have H1 : (some (0, 0, 0, ([] : List Int), ([] : List (S50)), ([] : List (S52)), 1)) = some (r1, r2, r3, r4, r5, r6, r7) := by rw [if_pos rfl] at H; exact H
     clear H
     have H := H1
     clear H1
     simp only [Option.some.injEq, Prod.mk.injEq] at H
     obtain ⟨rfl, rfl, rfl, rfl, rfl, rfl, rfl⟩ := H
     have hnb13 := NB149_148.out
     have hnc13 := NB148_149.out
     obtain ⟨hcz14_0, hcz14_1, hcz14_2, hcz14_3, hcz14_4⟩ := cells5 BK149
     obtain ⟨hfz14_0, hfz14_1, hfz14_2, hfz14_3, hfz14_4⟩ := frz5 BK149
     go_wp2
     refine bodyPost_ret (results_ctt rfl _ _ gb149 30 #[.int .i64 0, .int .i64 0, .int .i64 0, .slice none 0 0, .slice none 0 0] (0, 0) _ rfl (by (with_reducible repeat (first | refine blk_drewN ?_ _ | refine blk_drew ?_ | refine blk_alloc ?_ _)); refine blk_put (cs := #[.int .i64 0, .int .i64 0, .int .i64 0, .slice none 0 0, .slice none 0 0]) ?_ 4 _ rfl; (with_reducible repeat (first | refine blk_drewN ?_ _ | refine blk_drew ?_ | refine blk_alloc ?_ _)); refine blk_put (cs := #[.int .i64 0, .int .i64 0, .int .i64 0, .slice none 0 0, .slice none 0 0]) ?_ 3 _ rfl; (with_reducible repeat (first | refine blk_drewN ?_ _ | refine blk_drew ?_ | refine blk_alloc ?_ _)); refine blk_put (cs := #[.int .i64 0, .int .i64 0, .int .i64 0, .slice none 0 0, .slice none 0 0]) ?_ 2 _ rfl; (with_reducible repeat (first | refine blk_drewN ?_ _ | refine blk_drew ?_ | refine blk_alloc ?_ _)); refine blk_put (cs := #[.int .i64 0, .int .i64 0, .int .i64 0, .slice none 0 0, .slice none 0 0]) ?_ 1 _ rfl; (with_reducible repeat (first | refine blk_drewN ?_ _ | refine blk_drew ?_ | refine blk_alloc ?_ _)); refine blk_put (cs := #[.int .i64 0, .int .i64 0, .int .i64 0, .slice none 0 0, .slice none 0 0]) ?_ 0 _ rfl; (with_reducible repeat (first | refine blk_drewN ?_ _ | refine blk_drew ?_ | refine blk_alloc ?_ _)); exact BK149.out) Try.underlying30 rfl (by kernel_rfl)) rfl ?_
     exact ⟨_, _, _, by first | rfl | (simp [errW_none, errW_some] <;> rfl) | (simp [*, errW_none, errW_some] <;> rfl), by first | exact Kd.R_nil _ _ _ _ _ | exact Kd.N_nil _ _ _ _ _ | exact Kd.V_nil _ _ _ _ _ | exact Kd.Q_nil _ _ _ _ _ | exact Kd.S_nil _ _ _ _ _, by first | exact Kd.R_nil _ _ _ _ _ | exact Kd.N_nil _ _ _ _ _ | exact Kd.V_nil _ _ _ _ _ | exact Kd.Q_nil _ _ _ _ _ | exact Kd.S_nil _ _ _ _ _, by first | exact Kd.R_nil _ _ _ _ _ | exact Kd.N_nil _ _ _ _ _ | exact Kd.V_nil _ _ _ _ _ | exact Kd.Q_nil _ _ _ _ _ | exact Kd.S_nil _ _ _ _ _, pB HB⟩
    ·replace c12 := Bool.eq_false_iff.mpr c12
     subst c12
     have H1 : (if a1 < a0_0 then (some (0, 0, 0, ([] : List Int), ([] : List (S50)), ([] : List (S52)), 15)) else ((docket_advance.f kj4 a0_0 a0_1 a0_2 l0_3 l0_4 a1).bind fun bt151 => (some (bt151.1, bt151.2.1, bt151.2.2.1, bt151.2.2.2.1, bt151.2.2.2.2.1, bt151.2.2.2.2.2, 0)))) = some (r1, r2, r3, r4, r5, r6, r7) := by rw [if_neg (show ¬ (false = true) by decide)] at H; exact H
     clear H
     have H := H1
     clear H1
     by_cases c15 : a1 < a0_0
     ·rw [if_pos c15] at H
      have c15b0 : decide (a1 < a0_0) = true := decide_eq_true c15
      clear c15
      simp only [Option.some.injEq, Prod.mk.injEq] at H
      obtain ⟨rfl, rfl, rfl, rfl, rfl, rfl, rfl⟩ := H
      have hnb16 := NB148_149.out
      have hnc16 := NB149_148.out
      obtain ⟨hcz17_0, hcz17_1, hcz17_2, hcz17_3, hcz17_4⟩ := cells5 BK148
      obtain ⟨hfz17_0, hfz17_1, hfz17_2, hfz17_3, hfz17_4⟩ := frz5 BK148
      obtain ⟨hcz18_0, hcz18_1, hcz18_2, hcz18_3, hcz18_4⟩ := cells5 BK149
      obtain ⟨hfz18_0, hfz18_1, hfz18_2, hfz18_3, hfz18_4⟩ := frz5 BK149
      go_wp2
      refine bodyPost_ret (results_ctt rfl _ _ gb149 30 #[.int .i64 0, .int .i64 0, .int .i64 0, .slice none 0 0, .slice none 0 0] (0, 0) _ rfl (by (with_reducible repeat (first | refine blk_drewN ?_ _ | refine blk_drew ?_ | refine blk_alloc ?_ _)); refine blk_put (cs := #[.int .i64 0, .int .i64 0, .int .i64 0, .slice none 0 0, .slice none 0 0]) ?_ 4 _ rfl; (with_reducible repeat (first | refine blk_drewN ?_ _ | refine blk_drew ?_ | refine blk_alloc ?_ _)); refine blk_put (cs := #[.int .i64 0, .int .i64 0, .int .i64 0, .slice none 0 0, .slice none 0 0]) ?_ 3 _ rfl; (with_reducible repeat (first | refine blk_drewN ?_ _ | refine blk_drew ?_ | refine blk_alloc ?_ _)); refine blk_put (cs := #[.int .i64 0, .int .i64 0, .int .i64 0, .slice none 0 0, .slice none 0 0]) ?_ 2 _ rfl; (with_reducible repeat (first | refine blk_drewN ?_ _ | refine blk_drew ?_ | refine blk_alloc ?_ _)); refine blk_put (cs := #[.int .i64 0, .int .i64 0, .int .i64 0, .slice none 0 0, .slice none 0 0]) ?_ 1 _ rfl; (with_reducible repeat (first | refine blk_drewN ?_ _ | refine blk_drew ?_ | refine blk_alloc ?_ _)); refine blk_put (cs := #[.int .i64 0, .int .i64 0, .int .i64 0, .slice none 0 0, .slice none 0 0]) ?_ 0 _ rfl; (with_reducible repeat (first | refine blk_drewN ?_ _ | refine blk_drew ?_ | refine blk_alloc ?_ _)); exact BK149.out) Try.underlying30 rfl (by kernel_rfl)) rfl ?_
      exact ⟨_, _, _, by first | rfl | (simp [errW_none, errW_some] <;> rfl) | (simp [*, errW_none, errW_some] <;> rfl), by first | exact Kd.R_nil _ _ _ _ _ | exact Kd.N_nil _ _ _ _ _ | exact Kd.V_nil _ _ _ _ _ | exact Kd.Q_nil _ _ _ _ _ | exact Kd.S_nil _ _ _ _ _, by first | exact Kd.R_nil _ _ _ _ _ | exact Kd.N_nil _ _ _ _ _ | exact Kd.V_nil _ _ _ _ _ | exact Kd.Q_nil _ _ _ _ _ | exact Kd.S_nil _ _ _ _ _, by first | exact Kd.R_nil _ _ _ _ _ | exact Kd.N_nil _ _ _ _ _ | exact Kd.V_nil _ _ _ _ _ | exact Kd.Q_nil _ _ _ _ _ | exact Kd.S_nil _ _ _ _ _, pB HB⟩
     ·rw [if_neg c15] at H
      have c15b0 : decide (a1 < a0_0) = false := decide_eq_false c15
      clear c15
      replace H := Option.bind_eq_some_iff.mp H
      obtain ⟨⟨t151, t152, t153, t154, t157, t160⟩, A190, H⟩ := H
      replace H : (some (t151, t152, t153, t154, t157, t160, 0)) = some (r1, r2, r3, r4, r5, r6, r7) := H
      have A19 := Aside0.mk A190
      clear A190
      simp only [Option.some.injEq, Prod.mk.injEq] at H
      obtain ⟨rfl, rfl, rfl, rfl, rfl, rfl, rfl⟩ := H
      have hnb20 := NB148_149.out
      have hnc20 := NB149_148.out
      obtain ⟨hcz21_0, hcz21_1, hcz21_2, hcz21_3, hcz21_4⟩ := cells5 BK148
      obtain ⟨hfz21_0, hfz21_1, hfz21_2, hfz21_3, hfz21_4⟩ := frz5 BK148
      go_wp2_with (first | ((with_reducible refine gate_callee (f := 32) rfl ?_); refine goesL_ (some 31) rfl rfl Try.func32 (by kernel_rfl) rfl #[.agg #[.int .i64 a0_0, .int .i64 a0_1, .int .i64 a0_2, .slice A0_3 l0_3.length c0_3, .slice A0_4 l0_4.length c0_4], .int .i64 a1] rfl (by (try simp only [List.map_toArray, List.map_cons, List.map_nil]); first | done | rfl | (simp only [List.length_drop, List.length_take]; rfl)) ?_; (with_reducible refine (docket_advance.calls kj4 a0_0 a0_1 a0_2 _ _ l0_3 _ _ l0_4 a1 t151 t152 t153 t154 t157 t160 _ ?side1 ?side2 ?side3 ?side4 A19.out).mono ?_); (case side1 => exact cB HR0_3 HB); (case side2 => exact HC0_3.out); (case side3 => exact cB HR0_4 HB); (case side4 => exact HC0_4.out); rintro e w22 ⟨v155, v158, v161, rfl, ho0, ho1, ho2, hb⟩; refine ⟨_, rfl, ?_⟩; have HO156 := Aside0.mk (Kd.R_lower ho0 (below_size (pB HB))); have HO159 := Aside0.mk (Kd.R_lower ho1 (below_size (pB HB))); have HO162 := Aside0.mk (Kd.R_lower ho2 (below_size (pB HB))); replace BK148 := bB BK148 hb; replace BK149 := bB BK149 hb; replace HB := Aside0.mk (below_step (pB HB) hb); (try clear hb); (try clear ho0); (try clear ho1); (try clear ho2)) | ((with_reducible refine gate_dst (N := 8) rfl ?_); refine boxE (N := 8) #[.int .i64 0, .int .i64 0, .int .i64 0, .slice none 0 0, .slice none 0 0] 30 ?_; intro gb163 hg w23 hbox hb; have BK163 := Aside0.mk (hbox); have GW163 := gS HB hg; have GE163 := gS HB hg; have NB148_163 := nL BK148 hg; have NB163_148 := nG BK148 hg; have NB149_163 := nL BK149 hg; have NB163_149 := nG BK149 hg; replace HO156 := rB HO156 hb; replace HO159 := rB HO159 hb; replace HO162 := rB HO162 hb; replace BK148 := bB BK148 hb; replace BK149 := bB BK149 hb; replace HB := Aside0.mk (below_step (pB HB) hb); clear hb hbox hg; have hnb24 := NB163_148.out; have hnc24 := NB148_163.out; have hnb25 := NB163_149.out; have hnc25 := NB149_163.out; obtain ⟨hcz26_0, hcz26_1, hcz26_2, hcz26_3, hcz26_4⟩ := cells5 BK163; obtain ⟨hfz26_0, hfz26_1, hfz26_2, hfz26_3, hfz26_4⟩ := frz5 BK163; obtain ⟨Ao27, co27, eo27⟩ := Kd.R_slice HO156.out; subst eo27; obtain ⟨Ao28, co28, eo28⟩ := Kd.R_slice HO159.out; subst eo28; obtain ⟨hcz29_0, hcz29_1, hcz29_2, hcz29_3, hcz29_4⟩ := cells5 BK149; obtain ⟨hfz29_0, hfz29_1, hfz29_2, hfz29_3, hfz29_4⟩ := frz5 BK149))
      refine bodyPost_ret (results_ctt rfl _ _ gb149 30 #[.int .i64 t151, .int .i64 t152, .int .i64 t153, .slice Ao27 t154.length co27, .slice Ao28 t157.length co28] (0, 0) _ rfl (by (with_reducible repeat (first | refine blk_drewN ?_ _ | refine blk_drew ?_ | refine blk_alloc ?_ _)); refine blk_put (cs := #[.int .i64 t151, .int .i64 t152, .int .i64 t153, .slice Ao27 t154.length co27, .slice none 0 0]) ?_ 4 _ rfl; (with_reducible repeat (first | refine blk_drewN ?_ _ | refine blk_drew ?_ | refine blk_alloc ?_ _)); refine blk_put (cs := #[.int .i64 t151, .int .i64 t152, .int .i64 t153, .slice none 0 0, .slice none 0 0]) ?_ 3 _ rfl; (with_reducible repeat (first | refine blk_drewN ?_ _ | refine blk_drew ?_ | refine blk_alloc ?_ _)); refine blk_put (cs := #[.int .i64 t151, .int .i64 t152, .int .i64 0, .slice none 0 0, .slice none 0 0]) ?_ 2 _ rfl; (with_reducible repeat (first | refine blk_drewN ?_ _ | refine blk_drew ?_ | refine blk_alloc ?_ _)); refine blk_put (cs := #[.int .i64 t151, .int .i64 0, .int .i64 0, .slice none 0 0, .slice none 0 0]) ?_ 1 _ rfl; (with_reducible repeat (first | refine blk_drewN ?_ _ | refine blk_drew ?_ | refine blk_alloc ?_ _)); refine blk_put (cs := #[.int .i64 0, .int .i64 0, .int .i64 0, .slice none 0 0, .slice none 0 0]) ?_ 0 _ rfl; (with_reducible repeat (first | refine blk_drewN ?_ _ | refine blk_drew ?_ | refine blk_alloc ?_ _)); refine blk_far ?_ NB149_163.out _; (with_reducible repeat (first | refine blk_drewN ?_ _ | refine blk_drew ?_ | refine blk_alloc ?_ _)); refine blk_far ?_ NB149_163.out _; (with_reducible repeat (first | refine blk_drewN ?_ _ | refine blk_drew ?_ | refine blk_alloc ?_ _)); refine blk_far ?_ NB149_163.out _; (with_reducible repeat (first | refine blk_drewN ?_ _ | refine blk_drew ?_ | refine blk_alloc ?_ _)); refine blk_far ?_ NB149_163.out _; (with_reducible repeat (first | refine blk_drewN ?_ _ | refine blk_drew ?_ | refine blk_alloc ?_ _)); refine blk_far ?_ NB149_163.out _; (with_reducible repeat (first | refine blk_drewN ?_ _ | refine blk_drew ?_ | refine blk_alloc ?_ _)); exact BK149.out) Try.underlying30 rfl (by kernel_rfl)) rfl ?_
      exact ⟨_, _, _, by first | rfl | (simp [errW_none, errW_some] <;> rfl) | (simp [*, errW_none, errW_some] <;> rfl), by (with_reducible repeat (first | apply Kd.R_alloc | apply Kd.R_drewN | apply Kd.R_drew)); exact Kd.R_mono (Kd.R_far (p := ⟨gb149, 4, none⟩) (Kd.R_far (p := ⟨gb149, 3, none⟩) (Kd.R_far (p := ⟨gb149, 2, none⟩) (Kd.R_far (p := ⟨gb149, 1, none⟩) (Kd.R_far (p := ⟨gb149, 0, none⟩) (Kd.R_far (p := ⟨gb163, 4, none⟩) (Kd.R_far (p := ⟨gb163, 3, none⟩) (Kd.R_far (p := ⟨gb163, 2, none⟩) (Kd.R_far (p := ⟨gb163, 1, none⟩) (Kd.R_far (p := ⟨gb163, 0, none⟩) (Kd.R_types (Kd.R_types HO156.out BK163.out (by decide)) BK149.out (by decide)) (fun _ hk => hk.1.2) (.int .i64 t151)) (fun _ hk => hk.1.2) (.int .i64 t152)) (fun _ hk => hk.1.2) (.int .i64 t153)) (fun _ hk => hk.1.2) (.slice Ao27 t154.length co27)) (fun _ hk => hk.1.2) (.slice Ao28 t157.length co28)) (fun _ hk => hk.2) (.int .i64 t151)) (fun _ hk => hk.2) (.int .i64 t152)) (fun _ hk => hk.2) (.int .i64 t153)) (fun _ hk => hk.2) (.slice Ao27 t154.length co27)) (fun _ hk => hk.2) (.slice Ao28 t157.length co28)) (fun _ hk => trivial), by (with_reducible repeat (first | apply Kd.R_alloc | apply Kd.R_drewN | apply Kd.R_drew)); exact Kd.R_mono (Kd.R_far (p := ⟨gb149, 4, none⟩) (Kd.R_far (p := ⟨gb149, 3, none⟩) (Kd.R_far (p := ⟨gb149, 2, none⟩) (Kd.R_far (p := ⟨gb149, 1, none⟩) (Kd.R_far (p := ⟨gb149, 0, none⟩) (Kd.R_far (p := ⟨gb163, 4, none⟩) (Kd.R_far (p := ⟨gb163, 3, none⟩) (Kd.R_far (p := ⟨gb163, 2, none⟩) (Kd.R_far (p := ⟨gb163, 1, none⟩) (Kd.R_far (p := ⟨gb163, 0, none⟩) (Kd.R_types (Kd.R_types HO159.out BK163.out (by decide)) BK149.out (by decide)) (fun _ hk => hk.1.2) (.int .i64 t151)) (fun _ hk => hk.1.2) (.int .i64 t152)) (fun _ hk => hk.1.2) (.int .i64 t153)) (fun _ hk => hk.1.2) (.slice Ao27 t154.length co27)) (fun _ hk => hk.1.2) (.slice Ao28 t157.length co28)) (fun _ hk => hk.2) (.int .i64 t151)) (fun _ hk => hk.2) (.int .i64 t152)) (fun _ hk => hk.2) (.int .i64 t153)) (fun _ hk => hk.2) (.slice Ao27 t154.length co27)) (fun _ hk => hk.2) (.slice Ao28 t157.length co28)) (fun _ hk => trivial), by (with_reducible repeat (first | apply Kd.R_alloc | apply Kd.R_drewN | apply Kd.R_drew)); exact Kd.R_mono (Kd.R_far (p := ⟨gb149, 4, none⟩) (Kd.R_far (p := ⟨gb149, 3, none⟩) (Kd.R_far (p := ⟨gb149, 2, none⟩) (Kd.R_far (p := ⟨gb149, 1, none⟩) (Kd.R_far (p := ⟨gb149, 0, none⟩) (Kd.R_far (p := ⟨gb163, 4, none⟩) (Kd.R_far (p := ⟨gb163, 3, none⟩) (Kd.R_far (p := ⟨gb163, 2, none⟩) (Kd.R_far (p := ⟨gb163, 1, none⟩) (Kd.R_far (p := ⟨gb163, 0, none⟩) (Kd.R_types (Kd.R_types HO162.out BK163.out (by decide)) BK149.out (by decide)) (fun _ hk => hk.1.2) (.int .i64 t151)) (fun _ hk => hk.1.2) (.int .i64 t152)) (fun _ hk => hk.1.2) (.int .i64 t153)) (fun _ hk => hk.1.2) (.slice Ao27 t154.length co27)) (fun _ hk => hk.1.2) (.slice Ao28 t157.length co28)) (fun _ hk => hk.2) (.int .i64 t151)) (fun _ hk => hk.2) (.int .i64 t152)) (fun _ hk => hk.2) (.int .i64 t153)) (fun _ hk => hk.2) (.slice Ao27 t154.length co27)) (fun _ hk => hk.2) (.slice Ao28 t157.length co28)) (fun _ hk => trivial), pB HB⟩
 ·rw [if_neg c4] at H
  have c4b0 : (t150 == 0) = false := beq_eq_false_iff_ne.mpr c4
  have c4b1 : (t150 != 0) = true := bne_iff_ne.mpr c4
  simp only [Option.some.injEq, Prod.mk.injEq] at H
  obtain ⟨rfl, rfl, rfl, rfl, rfl, rfl, rfl⟩ := H
  go_enter Try.func13, Try.ntmps13
  go_wp2_with (first | ((with_reducible refine gate_dst (N := 2) rfl ?_); refine boxE (N := 2) #[.int .i64 a0_0, .int .i64 a0_1, .int .i64 a0_2, .slice A0_3 l0_3.length c0_3, .slice A0_4 l0_4.length c0_4] 30 ?_; intro gb148 hg w30 hbox hb; have BK148 := Aside0.mk (hbox); have GW148 := gS HB hg; have GE148 := gS HB hg; replace HB := Aside0.mk (below_step (pB HB) hb); clear hb hbox hg) | ((with_reducible refine gate_dst (N := 4) rfl ?_); refine boxE (N := 4) #[.int .i64 0, .int .i64 0, .int .i64 0, .slice none 0 0, .slice none 0 0] 30 ?_; intro gb149 hg w31 hbox hb; have BK149 := Aside0.mk (hbox); have GW149 := gS HB hg; have GE149 := gS HB hg; have NB148_149 := nL BK148 hg; have NB149_148 := nG BK148 hg; replace BK148 := bB BK148 hb; replace HB := Aside0.mk (below_step (pB HB) hb); clear hb hbox hg; have hnb32 := NB148_149.out; have hnc32 := NB149_148.out; obtain ⟨hcz33_0, hcz33_1, hcz33_2, hcz33_3, hcz33_4⟩ := cells5 BK148; obtain ⟨hfz33_0, hfz33_1, hfz33_2, hfz33_3, hfz33_4⟩ := frz5 BK148) | ((with_reducible refine gate_callee (f := 21) rfl ?_); refine goesL_ (some 11) rfl rfl Try.func21 (by kernel_rfl) rfl #[.agg #[.int .i64 a0_0, .int .i64 a0_1, .int .i64 a0_2, .slice A0_3 l0_3.length c0_3, .slice A0_4 l0_4.length c0_4]] rfl (by (try simp only [List.map_toArray, List.map_cons, List.map_nil]); first | done | rfl | (simp only [List.length_drop, List.length_take]; rfl)) ?_; (with_reducible refine (docket_Check.calls k a0_0 a0_1 a0_2 _ _ l0_3 _ _ l0_4 t150 _ ?side1 ?side2 ?side3 ?side4 A3.out).mono ?_); (case side1 => exact cB HR0_3 HB); (case side2 => exact HC0_3.out); (case side3 => exact cB HR0_4 HB); (case side4 => exact HC0_4.out); rintro e w34 ⟨rfl, hb⟩; refine ⟨_, rfl, ?_⟩; replace BK148 := bB BK148 hb; replace BK149 := bB BK149 hb; replace HB := Aside0.mk (below_step (pB HB) hb); (try clear hb); obtain ⟨hcz35_0, hcz35_1, hcz35_2, hcz35_3, hcz35_4⟩ := cells5 BK149; obtain ⟨hfz35_0, hfz35_1, hfz35_2, hfz35_3, hfz35_4⟩ := frz5 BK149))
  refine bodyPost_ret (results_ctt rfl _ _ gb149 30 #[.int .i64 0, .int .i64 0, .int .i64 0, .slice none 0 0, .slice none 0 0] (0, 0) _ rfl (by (with_reducible repeat (first | refine blk_drewN ?_ _ | refine blk_drew ?_ | refine blk_alloc ?_ _)); refine blk_put (cs := #[.int .i64 0, .int .i64 0, .int .i64 0, .slice none 0 0, .slice none 0 0]) ?_ 4 _ rfl; (with_reducible repeat (first | refine blk_drewN ?_ _ | refine blk_drew ?_ | refine blk_alloc ?_ _)); refine blk_put (cs := #[.int .i64 0, .int .i64 0, .int .i64 0, .slice none 0 0, .slice none 0 0]) ?_ 3 _ rfl; (with_reducible repeat (first | refine blk_drewN ?_ _ | refine blk_drew ?_ | refine blk_alloc ?_ _)); refine blk_put (cs := #[.int .i64 0, .int .i64 0, .int .i64 0, .slice none 0 0, .slice none 0 0]) ?_ 2 _ rfl; (with_reducible repeat (first | refine blk_drewN ?_ _ | refine blk_drew ?_ | refine blk_alloc ?_ _)); refine blk_put (cs := #[.int .i64 0, .int .i64 0, .int .i64 0, .slice none 0 0, .slice none 0 0]) ?_ 1 _ rfl; (with_reducible repeat (first | refine blk_drewN ?_ _ | refine blk_drew ?_ | refine blk_alloc ?_ _)); refine blk_put (cs := #[.int .i64 0, .int .i64 0, .int .i64 0, .slice none 0 0, .slice none 0 0]) ?_ 0 _ rfl; (with_reducible repeat (first | refine blk_drewN ?_ _ | refine blk_drew ?_ | refine blk_alloc ?_ _)); exact BK149.out) Try.underlying30 rfl (by kernel_rfl)) rfl ?_
  exact ⟨_, _, _, by first | rfl | (simp [errW_none, errW_some] <;> rfl) | (simp [*, errW_none, errW_some] <;> rfl), by first | exact Kd.R_nil _ _ _ _ _ | exact Kd.N_nil _ _ _ _ _ | exact Kd.V_nil _ _ _ _ _ | exact Kd.Q_nil _ _ _ _ _ | exact Kd.S_nil _ _ _ _ _, by first | exact Kd.R_nil _ _ _ _ _ | exact Kd.N_nil _ _ _ _ _ | exact Kd.V_nil _ _ _ _ _ | exact Kd.Q_nil _ _ _ _ _ | exact Kd.S_nil _ _ _ _ _, by first | exact Kd.R_nil _ _ _ _ _ | exact Kd.N_nil _ _ _ _ _ | exact Kd.V_nil _ _ _ _ _ | exact Kd.Q_nil _ _ _ _ _ | exact Kd.S_nil _ _ _ _ _, pB HB⟩

end Go.Proofs.Ytpfiecjacpbhkaa.D
