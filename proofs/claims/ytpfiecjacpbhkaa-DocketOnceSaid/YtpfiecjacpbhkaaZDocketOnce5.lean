/- Part 5 of 6 of the proof of DocketOnce: texts of this claim put one behind the other by a program; each begins with its own words. -/
import Derived.SizedLaws
import Derived.ChangeSlices
import Derived.OpenShut
import Derived.Deep.Slices
import Derived.Deep.Fields
import Derived.ChangeSame
import Derived.ProofKit
import Derived.Test.YtpfiecjacpbhkaaZDocketOnce4
/- What the Go functions named below come to, each told as_ a Lean function ('.f'), with the proof ('.calls'): no condition beyond those that each theorem states. Written by a program of this session's over the translation. -/
namespace Go.Proofs.Ytpfiecjacpbhkaa.D
open Go.RowKit Go.Proofs.YtpfiecjacpbhkaaW.PrintWords Go.Proofs.YtpfiecjacpbhkaaW.PrintLast Go.Proofs.YtpfiecjacpbhkaaW.PrintMore
attribute [local go_sem] max2_int min2_int max_two min_two max_three min_three max_four min_four   -- for this text's walks alone
set_option linter.unusedVariables false
set_option linter.unusedSimpArgs false

/-! ### insolvencylaw33_DocketOnce: function 4 -/
mutual
def insolvencylaw33_DocketOnce.l0 : Nat → Int → List (S52) → List (S47) → Int → Int → Int → Int → List Int → List (S50) → Option (Bool)
 | 0, _, _, _, _, _, _, _, _, _ => none
 | k + 1, x3, x11, x12, x13, x910000, x910001, x910002, x910003, x910004 => if x13 < (x12.length : Int) then (if 0 ≤ x13 then ((docket_File.f k x910000 x910001 x910002 x910003 x910004 ((rd_T47 x12 x13).f0) ((rd_T47 x12 x13).f1) ((rd_T47 x12 x13).f2) ((rd_T47 x12 x13).f3)).bind fun bt914 => (if bt914.2.2.2.2.2.2 = 0 then (if x11.length + bt914.2.2.2.2.2.1.length < 5864062014805 then ((docket_Check.f k bt914.1 bt914.2.1 bt914.2.2.1 bt914.2.2.2.1 bt914.2.2.2.2.1).bind fun t931 => (if t931 = 0 then (insolvencylaw33_DocketOnce.l0 k x3 (x11 ++ bt914.2.2.2.2.2.1) x12 (wrap64 (x13 + 1)) bt914.1 bt914.2.1 bt914.2.2.1 bt914.2.2.2.1 bt914.2.2.2.2.1) else (none))) else (none)) else ((docket_Check.f k x910000 x910001 x910002 x910003 x910004).bind fun t932 => (if t932 = 0 then (insolvencylaw33_DocketOnce.l0 k x3 x11 x12 (wrap64 (x13 + 1)) x910000 x910001 x910002 x910003 x910004) else (none))))) else (none)) else ((docket_Advance.f k x910000 x910001 x910002 x910003 x910004 (wrap64 (x910000 + (wrap64 (Int.tmod x3 60))))).bind fun bt933 => (if bt933.2.2.2.2.2.2 = 0 then ((docket_Check.f k bt933.1 bt933.2.1 bt933.2.2.1 bt933.2.2.2.1 bt933.2.2.2.2.1).bind fun t947 => (insolvencylaw33_DocketOnce.j1 k x11 bt933.2.2.2.2.2.1 (t947 != 0) bt933.1 bt933.2.1 bt933.2.2.1 bt933.2.2.2.1 bt933.2.2.2.2.1)) else (insolvencylaw33_DocketOnce.j1 k x11 bt933.2.2.2.2.2.1 true bt933.1 bt933.2.1 bt933.2.2.1 bt933.2.2.2.1 bt933.2.2.2.2.1)))
def insolvencylaw33_DocketOnce.j1 : Nat → List (S52) → List (S52) → Bool → Int → Int → Int → List Int → List (S50) → Option (Bool)
 | 0, _, _, _, _, _, _, _, _ => none
 | k + 1, x11, x18, x79, x947000, x947001, x947002, x947003, x947004 => if x79 = true then (none) else (if x11.length + x18.length < 5864062014805 then (insolvencylaw33_DocketOnce.l1 k (x11 ++ x18) 0 0 x947000 x947001 x947002 x947003 x947004) else (none))
def insolvencylaw33_DocketOnce.l1 : Nat → List (S52) → Int → Int → Int → Int → Int → List Int → List (S50) → Option (Bool)
 | 0, _, _, _, _, _, _, _, _ => none
 | k + 1, x11, x20, x21, x947000, x947001, x947002, x947003, x947004 => if x21 < (x947004.length : Int) then (if 0 ≤ x21 then (insolvencylaw33_DocketOnce.l2 k x11 x20 x21 0 0 x947000 x947001 x947002 x947003 x947004 ((rd_T50 x947004 x21).f0) ((rd_T50 x947004 x21).f1) ((rd_T50 x947004 x21).f2) ((rd_T50 x947004 x21).f3) ((rd_T50 x947004 x21).f4)) else (none)) else ((insolvencylaw33_awake.f k).bind fun t951 => (if t951 = true then (some (x20 == (x11.length : Int))) else (none)))
def insolvencylaw33_DocketOnce.l2 : Nat → List (S52) → Int → Int → Int → Int → Int → Int → Int → List Int → List (S50) → Int → Int → Int → Int → Bool → Option (Bool)
 | 0, _, _, _, _, _, _, _, _, _, _, _, _, _, _, _ => none
 | k + 1, x11, x20, x21, x23, x24, x947000, x947001, x947002, x947003, x947004, x954000, x954001, x954002, x954003, x954004 => if x24 < (x11.length : Int) then (if 0 ≤ x24 then (if ((rd_T52 x11 x24).f0) = x954000 then (if ((rd_T52 x11 x24).f2) = x954003 then (if ((rd_T52 x11 x24).f1) > x947000 then (none) else (insolvencylaw33_DocketOnce.l2 k x11 x20 x21 (wrap64 (x23 + 1)) (wrap64 (x24 + 1)) x947000 x947001 x947002 x947003 x947004 x954000 x954001 x954002 x954003 x954004)) else (none)) else (insolvencylaw33_DocketOnce.l2 k x11 x20 x21 x23 (wrap64 (x24 + 1)) x947000 x947001 x947002 x947003 x947004 x954000 x954001 x954002 x954003 x954004)) else (none)) else (if x954001 = 6 then (if ((x23 == 1) != (x954001 == 6)) = true then (none) else (if x23 > 1 then (none) else (insolvencylaw33_DocketOnce.l1 k x11 (wrap64 (x20 + 1)) (wrap64 (x21 + 1)) x947000 x947001 x947002 x947003 x947004))) else (if ((x23 == 1) != (x954001 == 6)) = true then (none) else (if x23 > 1 then (none) else (insolvencylaw33_DocketOnce.l1 k x11 x20 (wrap64 (x21 + 1)) x947000 x947001 x947002 x947003 x947004))))
end
def insolvencylaw33_DocketOnce.f (k : Nat) (a0_0 : Int) (a0_1 : Int) (l1 : List Int) (l2 : List (S83)) (a3 : Int) : Option (Bool) := (insolvencylaw0_Terms.f k a0_0 a0_1 l1).bind fun bt894 => ((docket_New.f k 0 bt894.1 bt894.2.1 bt894.2.2).bind fun bt899 => (if bt899.2.2.2.2.2 = 0 then ((law0_Matters.f k l2).bind fun t910 => (insolvencylaw33_DocketOnce.l0 k a3 ([] : List (S52)) t910 0 bt899.1 bt899.2.1 bt899.2.2.1 bt899.2.2.2.1 bt899.2.2.2.2.1)) else (none)))
theorem insolvencylaw33_DocketOnce.mono_l : ∀ k, (∀ y0 y1 y2 y3 y4 y5 y6 y7 y8, LeO (insolvencylaw33_DocketOnce.l0 k y0 y1 y2 y3 y4 y5 y6 y7 y8) (insolvencylaw33_DocketOnce.l0 (k + 1) y0 y1 y2 y3 y4 y5 y6 y7 y8)) ∧ (∀ y0 y1 y2 y3 y4 y5 y6 y7, LeO (insolvencylaw33_DocketOnce.j1 k y0 y1 y2 y3 y4 y5 y6 y7) (insolvencylaw33_DocketOnce.j1 (k + 1) y0 y1 y2 y3 y4 y5 y6 y7)) ∧ (∀ y0 y1 y2 y3 y4 y5 y6 y7, LeO (insolvencylaw33_DocketOnce.l1 k y0 y1 y2 y3 y4 y5 y6 y7) (insolvencylaw33_DocketOnce.l1 (k + 1) y0 y1 y2 y3 y4 y5 y6 y7)) ∧ (∀ y0 y1 y2 y3 y4 y5 y6 y7 y8 y9 y10 y11 y12 y13 y14, LeO (insolvencylaw33_DocketOnce.l2 k y0 y1 y2 y3 y4 y5 y6 y7 y8 y9 y10 y11 y12 y13 y14) (insolvencylaw33_DocketOnce.l2 (k + 1) y0 y1 y2 y3 y4 y5 y6 y7 y8 y9 y10 y11 y12 y13 y14))
 | 0 => ⟨fun _ _ _ _ _ _ _ _ _ r h => by simp [insolvencylaw33_DocketOnce.l0] at h, fun _ _ _ _ _ _ _ _ r h => by simp [insolvencylaw33_DocketOnce.j1] at h, fun _ _ _ _ _ _ _ _ r h => by simp [insolvencylaw33_DocketOnce.l1] at h, fun _ _ _ _ _ _ _ _ _ _ _ _ _ _ _ r h => by simp [insolvencylaw33_DocketOnce.l2] at h⟩
 | k + 1 => by
  obtain ⟨ih0, ih1, ih2, ih3⟩ := insolvencylaw33_DocketOnce.mono_l k
  refine ⟨?_, ?_, ?_, ?_⟩
  ·intro y0 y1 y2 y3 y4 y5 y6 y7 y8
   unfold insolvencylaw33_DocketOnce.l0
   repeat' first
   | (with_reducible exact ih0 _ _ _ _ _ _ _ _ _)
   | (with_reducible exact ih1 _ _ _ _ _ _ _ _)
   | (with_reducible exact ih2 _ _ _ _ _ _ _ _)
   | (with_reducible exact ih3 _ _ _ _ _ _ _ _ _ _ _ _ _ _ _)
   | (with_reducible exact docket_Advance.mono _ _ _ _ _ _ _)
   | (with_reducible exact docket_Check.mono _ _ _ _ _ _)
   | (with_reducible exact docket_File.mono _ _ _ _ _ _ _ _ _ _)
   | (with_reducible exact docket_New.mono _ _ _ _ _)
   | (with_reducible exact insolvencylaw0_Terms.mono _ _ _ _)
   | (with_reducible exact insolvencylaw33_awake.mono _)
   | (with_reducible exact law0_Matters.mono _ _)
   | (with_reducible exact LeO.refl _)
   | (with_reducible exact LeO.none _)
   | (with_reducible refine LeO.ite ?_ ?_)
   | (with_reducible refine LeO.bind ?_ (fun _ => ?_))
   | exact ih0 _ _ _ _ _ _ _ _ _
   | exact ih1 _ _ _ _ _ _ _ _
   | exact ih2 _ _ _ _ _ _ _ _
   | exact ih3 _ _ _ _ _ _ _ _ _ _ _ _ _ _ _
   | exact docket_Advance.mono _ _ _ _ _ _ _
   | exact docket_Check.mono _ _ _ _ _ _
   | exact docket_File.mono _ _ _ _ _ _ _ _ _ _
   | exact docket_New.mono _ _ _ _ _
   | exact insolvencylaw0_Terms.mono _ _ _ _
   | exact insolvencylaw33_awake.mono _
   | exact law0_Matters.mono _ _
   | exact LeO.none _
   | refine LeO.ite ?_ ?_
   | refine LeO.bind ?_ (fun _ => ?_)
  ·intro y0 y1 y2 y3 y4 y5 y6 y7
   unfold insolvencylaw33_DocketOnce.j1
   repeat' first
   | (with_reducible exact ih0 _ _ _ _ _ _ _ _ _)
   | (with_reducible exact ih1 _ _ _ _ _ _ _ _)
   | (with_reducible exact ih2 _ _ _ _ _ _ _ _)
   | (with_reducible exact ih3 _ _ _ _ _ _ _ _ _ _ _ _ _ _ _)
   | (with_reducible exact docket_Advance.mono _ _ _ _ _ _ _)
   | (with_reducible exact docket_Check.mono _ _ _ _ _ _)
   | (with_reducible exact docket_File.mono _ _ _ _ _ _ _ _ _ _)
   | (with_reducible exact docket_New.mono _ _ _ _ _)
   | (with_reducible exact insolvencylaw0_Terms.mono _ _ _ _)
   | (with_reducible exact insolvencylaw33_awake.mono _)
   | (with_reducible exact law0_Matters.mono _ _)
   | (with_reducible exact LeO.refl _)
   | (with_reducible exact LeO.none _)
   | (with_reducible refine LeO.ite ?_ ?_)
   | (with_reducible refine LeO.bind ?_ (fun _ => ?_))
   | exact ih0 _ _ _ _ _ _ _ _ _
   | exact ih1 _ _ _ _ _ _ _ _
   | exact ih2 _ _ _ _ _ _ _ _
   | exact ih3 _ _ _ _ _ _ _ _ _ _ _ _ _ _ _
   | exact docket_Advance.mono _ _ _ _ _ _ _
   | exact docket_Check.mono _ _ _ _ _ _
   | exact docket_File.mono _ _ _ _ _ _ _ _ _ _
   | exact docket_New.mono _ _ _ _ _
   | exact insolvencylaw0_Terms.mono _ _ _ _
   | exact insolvencylaw33_awake.mono _
   | exact law0_Matters.mono _ _
   | exact LeO.none _
   | refine LeO.ite ?_ ?_
   | refine LeO.bind ?_ (fun _ => ?_)
  ·intro y0 y1 y2 y3 y4 y5 y6 y7
   unfold insolvencylaw33_DocketOnce.l1
   repeat' first
   | (with_reducible exact ih0 _ _ _ _ _ _ _ _ _)
   | (with_reducible exact ih1 _ _ _ _ _ _ _ _)
   | (with_reducible exact ih2 _ _ _ _ _ _ _ _)
   | (with_reducible exact ih3 _ _ _ _ _ _ _ _ _ _ _ _ _ _ _)
   | (with_reducible exact docket_Advance.mono _ _ _ _ _ _ _)
   | (with_reducible exact docket_Check.mono _ _ _ _ _ _)
   | (with_reducible exact docket_File.mono _ _ _ _ _ _ _ _ _ _)
   | (with_reducible exact docket_New.mono _ _ _ _ _)
   | (with_reducible exact insolvencylaw0_Terms.mono _ _ _ _)
   | (with_reducible exact insolvencylaw33_awake.mono _)
   | (with_reducible exact law0_Matters.mono _ _)
   | (with_reducible exact LeO.refl _)
   | (with_reducible exact LeO.none _)
   | (with_reducible refine LeO.ite ?_ ?_)
   | (with_reducible refine LeO.bind ?_ (fun _ => ?_))
   | exact ih0 _ _ _ _ _ _ _ _ _
   | exact ih1 _ _ _ _ _ _ _ _
   | exact ih2 _ _ _ _ _ _ _ _
   | exact ih3 _ _ _ _ _ _ _ _ _ _ _ _ _ _ _
   | exact docket_Advance.mono _ _ _ _ _ _ _
   | exact docket_Check.mono _ _ _ _ _ _
   | exact docket_File.mono _ _ _ _ _ _ _ _ _ _
   | exact docket_New.mono _ _ _ _ _
   | exact insolvencylaw0_Terms.mono _ _ _ _
   | exact insolvencylaw33_awake.mono _
   | exact law0_Matters.mono _ _
   | exact LeO.none _
   | refine LeO.ite ?_ ?_
   | refine LeO.bind ?_ (fun _ => ?_)
  ·intro y0 y1 y2 y3 y4 y5 y6 y7 y8 y9 y10 y11 y12 y13 y14
   unfold insolvencylaw33_DocketOnce.l2
   repeat' first
   | (with_reducible exact ih0 _ _ _ _ _ _ _ _ _)
   | (with_reducible exact ih1 _ _ _ _ _ _ _ _)
   | (with_reducible exact ih2 _ _ _ _ _ _ _ _)
   | (with_reducible exact ih3 _ _ _ _ _ _ _ _ _ _ _ _ _ _ _)
   | (with_reducible exact docket_Advance.mono _ _ _ _ _ _ _)
   | (with_reducible exact docket_Check.mono _ _ _ _ _ _)
   | (with_reducible exact docket_File.mono _ _ _ _ _ _ _ _ _ _)
   | (with_reducible exact docket_New.mono _ _ _ _ _)
   | (with_reducible exact insolvencylaw0_Terms.mono _ _ _ _)
   | (with_reducible exact insolvencylaw33_awake.mono _)
   | (with_reducible exact law0_Matters.mono _ _)
   | (with_reducible exact LeO.refl _)
   | (with_reducible exact LeO.none _)
   | (with_reducible refine LeO.ite ?_ ?_)
   | (with_reducible refine LeO.bind ?_ (fun _ => ?_))
   | exact ih0 _ _ _ _ _ _ _ _ _
   | exact ih1 _ _ _ _ _ _ _ _
   | exact ih2 _ _ _ _ _ _ _ _
   | exact ih3 _ _ _ _ _ _ _ _ _ _ _ _ _ _ _
   | exact docket_Advance.mono _ _ _ _ _ _ _
   | exact docket_Check.mono _ _ _ _ _ _
   | exact docket_File.mono _ _ _ _ _ _ _ _ _ _
   | exact docket_New.mono _ _ _ _ _
   | exact insolvencylaw0_Terms.mono _ _ _ _
   | exact insolvencylaw33_awake.mono _
   | exact law0_Matters.mono _ _
   | exact LeO.none _
   | refine LeO.ite ?_ ?_
   | refine LeO.bind ?_ (fun _ => ?_)
theorem insolvencylaw33_DocketOnce.mono : ∀ a0 a1 a2 a3 a4 k, LeO (insolvencylaw33_DocketOnce.f k a0 a1 a2 a3 a4) (insolvencylaw33_DocketOnce.f (k + 1) a0 a1 a2 a3 a4) := by
 intro a0 a1 a2 a3 a4 k
 obtain ⟨ih0, ih1, ih2, ih3⟩ := insolvencylaw33_DocketOnce.mono_l k
 unfold insolvencylaw33_DocketOnce.f
 repeat' first
   | (with_reducible exact ih0 _ _ _ _ _ _ _ _ _)
   | (with_reducible exact ih1 _ _ _ _ _ _ _ _)
   | (with_reducible exact ih2 _ _ _ _ _ _ _ _)
   | (with_reducible exact ih3 _ _ _ _ _ _ _ _ _ _ _ _ _ _ _)
   | (with_reducible exact docket_Advance.mono _ _ _ _ _ _ _)
   | (with_reducible exact docket_Check.mono _ _ _ _ _ _)
   | (with_reducible exact docket_File.mono _ _ _ _ _ _ _ _ _ _)
   | (with_reducible exact docket_New.mono _ _ _ _ _)
   | (with_reducible exact insolvencylaw0_Terms.mono _ _ _ _)
   | (with_reducible exact insolvencylaw33_awake.mono _)
   | (with_reducible exact law0_Matters.mono _ _)
   | (with_reducible exact LeO.refl _)
   | (with_reducible exact LeO.none _)
   | (with_reducible refine LeO.ite ?_ ?_)
   | (with_reducible refine LeO.bind ?_ (fun _ => ?_))
   | exact ih0 _ _ _ _ _ _ _ _ _
   | exact ih1 _ _ _ _ _ _ _ _
   | exact ih2 _ _ _ _ _ _ _ _
   | exact ih3 _ _ _ _ _ _ _ _ _ _ _ _ _ _ _
   | exact docket_Advance.mono _ _ _ _ _ _ _
   | exact docket_Check.mono _ _ _ _ _ _
   | exact docket_File.mono _ _ _ _ _ _ _ _ _ _
   | exact docket_New.mono _ _ _ _ _
   | exact insolvencylaw0_Terms.mono _ _ _ _
   | exact insolvencylaw33_awake.mono _
   | exact law0_Matters.mono _ _
   | exact LeO.none _
   | refine LeO.ite ?_ ?_
   | refine LeO.bind ?_ (fun _ => ?_)
def insolvencylaw33_DocketOnce.T9 : Bool × List (List Nat × List Nat) := (true, [([], []), ([], []), ([], []), ([1, 2], [1, 2]), ([3], [3]), ([0, 4], [0, 4]), ([5], [5]), ([6], [6]), ([6], [6]), ([6], [6]), ([], []), ([10, 7, 5, 0, 1, 2, 3, 4, 5, 6, 7, 10], [7, 10]), ([8, 11, 0, 1, 2, 3, 4, 5, 6, 7, 8, 10, 11], [8]), ([9, 12, 0, 1, 2, 3, 4, 5, 6, 7, 8, 9, 10, 11, 12], [9])])
def insolvencylaw33_DocketOnce.B9 : List Nat := [0, 0, 0, 6, 14, 31, 63, 127, 127, 127, 0, 1279, 3583, 8191]
theorem insolvencylaw33_DocketOnce.tab9 : rtab .any (opsOf Try.f4 9) = insolvencylaw33_DocketOnce.T9 := by kernel_rfl
theorem insolvencylaw33_DocketOnce.bits9 : waitsOk insolvencylaw33_DocketOnce.T9.2 insolvencylaw33_DocketOnce.B9 = true := by kernel_rfl
def insolvencylaw33_DocketOnce.T28 : Bool × List (List Nat × List Nat) := (true, [([], []), ([], []), ([0, 1], [0, 1]), ([2], [2]), ([3], [3]), ([], []), ([5], [5]), ([4, 6], [4, 6])])
def insolvencylaw33_DocketOnce.B28 : List Nat := [0, 0, 3, 7, 15, 0, 32, 127]
theorem insolvencylaw33_DocketOnce.tab28 : rtab .any (opsOf Try.f4 28) = insolvencylaw33_DocketOnce.T28 := by kernel_rfl
theorem insolvencylaw33_DocketOnce.bits28 : waitsOk insolvencylaw33_DocketOnce.T28.2 insolvencylaw33_DocketOnce.B28 = true := by kernel_rfl
def insolvencylaw33_DocketOnce.T30 : Bool × List (List Nat × List Nat) := (true, [([], []), ([], []), ([0, 1], [0, 1]), ([2], [2]), ([3], [3]), ([], []), ([5], [5]), ([4, 6], [4, 6]), ([7], [7]), ([8], [8]), ([8], [8]), ([9, 10, 8], [8, 9, 10]), ([11, 8], [8, 11]), ([12, 8], [8, 12]), ([8], [8]), ([14, 8], [8, 14]), ([13, 15, 8], [8, 13, 15]), ([8, 16], [8, 16])])
def insolvencylaw33_DocketOnce.B30 : List Nat := [0, 0, 3, 7, 15, 0, 32, 127, 255, 511, 511, 2047, 4095, 8191, 511, 16895, 65535, 131071]
theorem insolvencylaw33_DocketOnce.tab30 : rtab .any (opsOf Try.f4 30) = insolvencylaw33_DocketOnce.T30 := by kernel_rfl
theorem insolvencylaw33_DocketOnce.bits30 : waitsOk insolvencylaw33_DocketOnce.T30.2 insolvencylaw33_DocketOnce.B30 = true := by kernel_rfl
set_option maxHeartbeats 8000000 in
set_option maxRecDepth 100000 in
theorem insolvencylaw33_DocketOnce.calls (k : Nat) (a0_0 : Int) (a0_1 : Int) (A1 : Option Addr) (c1 : Nat) (l1 : List Int) (A2 : Option Addr) (c2 : Nat) (l2 : List (S83)) (a3 : Int) (r : Bool) (w : World) (hr1 : Kd.C (Kd.int .u16) w A1 l1.length l1) (hc1 : l1.length ≤ c1) (hr2 : Kd.C k83 w A2 l2.length l2) (hc2 : l2.length ≤ c2) (h : insolvencylaw33_DocketOnce.f k a0_0 a0_1 l1 l2 a3 = some r) :
  Calls Try.prog 4 #[.agg #[.int .u8 a0_0, .int .u8 a0_1], .slice A1 l1.length c1, .slice A2 l2.length c2, .int .u8 a3] w fun e w' => e = .returned (.bool r) ∧ Below w.heap.size w w' := by
 have hu22 := Try.underlying22
 have hu30 := Try.underlying30
 have hu47 := Try.underlying47
 have hu50 := Try.underlying50
 have HR1 := Aside0.mk hr1
 have HC1 := Aside0.mk hc1
 clear hr1 hc1
 have HR2 := Aside0.mk hr2
 have HC2 := Aside0.mk hc2
 clear hr2 hc2
 have HB := Aside0.mk (Below.refl w.heap.size w)
 have H : ((insolvencylaw0_Terms.f k a0_0 a0_1 l1).bind fun bt894 => ((docket_New.f k 0 bt894.1 bt894.2.1 bt894.2.2).bind fun bt899 => (if bt899.2.2.2.2.2 = 0 then ((law0_Matters.f k l2).bind fun t910 => (insolvencylaw33_DocketOnce.l0 k a3 ([] : List (S52)) t910 0 bt899.1 bt899.2.1 bt899.2.2.1 bt899.2.2.2.1 bt899.2.2.2.2.1)) else (none)))) = some r := h
 clear h
 replace H := Option.bind_eq_some_iff.mp H
 obtain ⟨⟨t894, t895, t896⟩, A50, H⟩ := H
 replace H : ((docket_New.f k 0 t894 t895 t896).bind fun bt899 => (if bt899.2.2.2.2.2 = 0 then ((law0_Matters.f k l2).bind fun t910 => (insolvencylaw33_DocketOnce.l0 k a3 ([] : List (S52)) t910 0 bt899.1 bt899.2.1 bt899.2.2.1 bt899.2.2.2.1 bt899.2.2.2.2.1)) else (none))) = some r := H
 have A5 := Aside0.mk A50
 clear A50
 replace H := Option.bind_eq_some_iff.mp H
 obtain ⟨⟨t899, t900, t901, t902, t905, t908⟩, A60, H⟩ := H
 replace H : (if t908 = 0 then ((law0_Matters.f k l2).bind fun t910 => (insolvencylaw33_DocketOnce.l0 k a3 ([] : List (S52)) t910 0 t899 t900 t901 t902 t905)) else (none)) = some r := H
 have A6 := Aside0.mk A60
 clear A60
 by_cases c7 : t908 = 0
 ·rw [if_pos c7] at H
  have c7b0 : (t908 == 0) = true := beq_iff_eq.mpr c7
  have c7b1 : (t908 != 0) = false := bne_eq_false_iff_eq.mpr c7
  clear c7
  replace H := Option.bind_eq_some_iff.mp H
  obtain ⟨t910, A80, H⟩ := H
  replace H : (insolvencylaw33_DocketOnce.l0 k a3 ([] : List (S52)) t910 0 t899 t900 t901 t902 t905) = some r := H
  have A8 := Aside0.mk A80
  clear A80
  have H' := Aside0.mk H
  clear H
  go_enter Try.func4, Try.ntmps4
  go_wp2_with (first | ((with_reducible refine gate_dst (N := 4) rfl ?_); (try (refine gate_guard (by rfl) ?_; dsimp only)); refine box_event ?hg (N := 4) ?hd (cs := #[.int .u8 a0_0, .int .u8 a0_1]) (t := 22) ?hr ?_; (case hd => rfl); (case hg => rfl); (case hr => first | (go_simp; done) | (go_simp; rfl)); intro gb893 hg w9 hbox hb; have n0_ := Aside0.mk (below_step (pB HB) hb); have n1_ := Aside0.mk (hbox); have n2_ := Aside0.mk ((by rw [hg]; exact (below_size (pB HB)) : w.heap.size ≤ gb893)); have n3_ := Aside0.mk ((by rw [hg]; exact (below_size (pB HB)) : w.heap.size ≤ gb893)); clear HB; have HB := n0_; have BK893 := n1_; have GW893 := n2_; have GE893 := n3_; clear n0_ n1_ n2_ n3_; clear hb hbox hg; obtain ⟨hcz10_0, hcz10_1⟩ := cells2 BK893; obtain ⟨hfz10_0, hfz10_1⟩ := frz2 BK893) | ((with_reducible refine gate_callee (f := 18) rfl ?_); refine goesL_ (some 28) rfl rfl Try.func18 (by kernel_rfl) rfl #[.agg #[.int .u8 a0_0, .int .u8 a0_1], .slice A1 l1.length c1] rfl (by (try simp only [List.map_toArray, List.map_cons, List.map_nil]); first | done | rfl | (simp only [List.length_drop, List.length_take]; rfl)) ?_; (with_reducible refine (insolvencylaw0_Terms.calls k a0_0 a0_1 _ _ l1 t894 t895 t896 _ ?side1 ?side2 A5.out).mono ?_); (case side1 => repeat (first | exact (Kd.C_below HR1.out HB.out) | (with_reducible refine Kd.C_alloc ?_ _) | (with_reducible refine Kd.C_drewN ?_ _) | (with_reducible refine Kd.C_drew ?_))); (case side2 => exact HC1.out); rintro e w11 ⟨v897, rfl, ho0, hb⟩; refine ⟨_, rfl, ?_⟩; have n0_ := Aside0.mk (Kd.R_lower ho0 (below_size (pB HB))); have n1_ := bB BK893 hb; have n2_ := Aside0.mk (below_step (pB HB) hb); clear BK893; clear HB; have HO898 := n0_; have BK893 := n1_; have HB := n2_; clear n0_ n1_ n2_; (try clear hb); (try clear hb2); (try clear hk); (try clear hi); (try clear ho0); obtain ⟨Ao12, co12, eo12⟩ := Kd.R_slice HO898.out; subst eo12) | ((with_reducible refine gate_callee (f := 17) rfl ?_); refine goesL_ (some 29) rfl rfl Try.func17 (by kernel_rfl) rfl #[.int .i64 0, .agg #[.int .i64 t894, .int .i64 t895, .slice Ao12 t896.length co12]] rfl (by (try simp only [List.map_toArray, List.map_cons, List.map_nil]); first | done | rfl | (simp only [List.length_drop, List.length_take]; rfl)) ?_; (with_reducible refine (docket_New.calls k 0 t894 t895 _ _ t896 t899 t900 t901 t902 t905 t908 _ ?side1 ?side2 A6.out).mono ?_); (case side1 => repeat (first | exact (Kd.R_reads' HO898.out).2.2 | (with_reducible refine Kd.C_alloc ?_ _) | (with_reducible refine Kd.C_drewN ?_ _) | (with_reducible refine Kd.C_drew ?_))); (case side2 => exact (Kd.R_reads' HO898.out).2.1); rintro e w13 ⟨v903, v906, rfl, ho0, ho1, hb⟩; refine ⟨_, rfl, ?_⟩; have n0_ := Aside0.mk (Kd.R_elder' (by (with_reducible repeat (first | apply Kd.R_alloc | apply Kd.R_drewN | apply Kd.R_drew)); exact HO898.out) (Kd.R_base ho0) hb); have n1_ := Aside0.mk (Kd.R_lower (Kd.R_new' ho0 (Kd.R_lt (by (with_reducible repeat (first | apply Kd.R_alloc | apply Kd.R_drewN | apply Kd.R_drew)); exact HO898.out))) (below_size (pB HB))); have n2_ := Aside0.mk (Kd.R_lower ho1 (below_size (pB HB))); have n3_ := bB BK893 hb; have n4_ := Aside0.mk (below_step (pB HB) hb); clear HO898; clear BK893; clear HB; have HO898 := n0_; have HO904 := n1_; have HO907 := n2_; have BK893 := n3_; have HB := n4_; clear n0_ n1_ n2_ n3_ n4_; (try clear hb); (try clear hb2); (try clear hk); (try clear hi); (try clear ho0); (try clear ho1)) | ((with_reducible refine gate_dst (N := 9) rfl ?_); (try (refine gate_guard (by rfl) ?_; dsimp only)); refine box_event ?hg (N := 9) ?hd (cs := #[.int .i64 0, .int .i64 0, .int .i64 0, .slice none 0 0, .slice none 0 0]) (t := 30) ?hr ?_; (case hd => rfl); (case hg => rfl); (case hr => first | (go_simp; done) | (go_simp; rfl)); intro gb909 hg w14 hbox hb; have n0_ := rB HO898 hb; have n1_ := rB HO904 hb; have n2_ := rB HO907 hb; have n3_ := bB BK893 hb; have n4_ := Aside0.mk (below_step (pB HB) hb); have n5_ := Aside0.mk (hbox); have n6_ := Aside0.mk ((by rw [hg]; exact (below_size (pB HB)) : w.heap.size ≤ gb909)); have n7_ := Aside0.mk ((by rw [hg]; exact (below_size (pB HB)) : w.heap.size ≤ gb909)); have n8_ := Aside0.mk ((by rw [hg]; exact Nat.ne_of_lt (blk_lt (g := gb893) (o := .cells #[.int .u8 a0_0, .int .u8 a0_1] 22 (0, 0)) (by (with_reducible repeat (first|refine bN ?_ _|refine bD ?_|refine bA ?_ _)); exact BK893.out)) : gb893 ≠ gb909)); have n9_ := Aside0.mk ((by rw [hg]; exact Nat.ne_of_gt (blk_lt (g := gb893) (o := .cells #[.int .u8 a0_0, .int .u8 a0_1] 22 (0, 0)) (by (with_reducible repeat (first|refine bN ?_ _|refine bD ?_|refine bA ?_ _)); exact BK893.out)) : gb909 ≠ gb893)); clear HO898; clear HO904; clear HO907; clear BK893; clear HB; have HO898 := n0_; have HO904 := n1_; have HO907 := n2_; have BK893 := n3_; have HB := n4_; have BK909 := n5_; have GW909 := n6_; have GE909 := n7_; have NB893_909 := n8_; have NB909_893 := n9_; clear n0_ n1_ n2_ n3_ n4_ n5_ n6_ n7_ n8_ n9_; clear hb hbox hg; have hnb15 := NB909_893.out; have hnc15 := NB893_909.out; obtain ⟨hcz16_0, hcz16_1, hcz16_2, hcz16_3, hcz16_4⟩ := cells5 BK909; obtain ⟨hfz16_0, hfz16_1, hfz16_2, hfz16_3, hfz16_4⟩ := frz5 BK909; obtain ⟨Ao17, co17, eo17⟩ := Kd.R_slice HO904.out; subst eo17; obtain ⟨Ao18, co18, eo18⟩ := Kd.R_slice HO907.out; subst eo18) | ((with_reducible refine gate_callee (f := 19) rfl ?_); refine goesL_ (some 35) rfl rfl Try.func19 (by kernel_rfl) rfl #[.slice A2 l2.length c2] rfl (by (try simp only [List.map_toArray, List.map_cons, List.map_nil]); first | done | rfl | (simp only [List.length_drop, List.length_take]; rfl)) ?_; (with_reducible refine (law0_Matters.calls k _ _ l2 t910 _ ?side1 ?side2 A8.out).mono ?_); (case side1 => exact Kd.C_below HR2.out (pB HB)); (case side2 => exact HC2.out); rintro e w19 ⟨v911, rfl, ho0, hb⟩; refine ⟨_, rfl, ?_⟩; have n0_ := Aside0.mk (Kd.R_below (by (with_reducible repeat (first | apply Kd.R_alloc | apply Kd.R_drewN | apply Kd.R_drew)); exact (Kd.R_mono (Kd.R_far (p := ⟨gb909, 4, none⟩) (Kd.R_far (p := ⟨gb909, 3, none⟩) (Kd.R_far (p := ⟨gb909, 2, none⟩) (Kd.R_far (p := ⟨gb909, 1, none⟩) (Kd.R_far (p := ⟨gb909, 0, none⟩) (Kd.R_types HO898.out BK909.out (by decide)) (fun _ hk => hk.2) (.int .i64 t899)) (fun _ hk => hk.2) (.int .i64 t900)) (fun _ hk => hk.2) (.int .i64 t901)) (fun _ hk => hk.2) (.slice Ao17 t902.length co17)) (fun _ hk => hk.2) (.slice Ao18 t905.length co18)) (fun _ h_ => h_.1))) hb); have n1_ := Aside0.mk (Kd.R_below (by (with_reducible repeat (first | apply Kd.R_alloc | apply Kd.R_drewN | apply Kd.R_drew)); exact (Kd.R_mono (Kd.R_far (p := ⟨gb909, 4, none⟩) (Kd.R_far (p := ⟨gb909, 3, none⟩) (Kd.R_far (p := ⟨gb909, 2, none⟩) (Kd.R_far (p := ⟨gb909, 1, none⟩) (Kd.R_far (p := ⟨gb909, 0, none⟩) (Kd.R_types HO904.out BK909.out (by decide)) (fun _ hk => hk.2) (.int .i64 t899)) (fun _ hk => hk.2) (.int .i64 t900)) (fun _ hk => hk.2) (.int .i64 t901)) (fun _ hk => hk.2) (.slice Ao17 t902.length co17)) (fun _ hk => hk.2) (.slice Ao18 t905.length co18)) (fun _ h_ => h_.1))) hb); have n2_ := Aside0.mk (Kd.R_below (by (with_reducible repeat (first | apply Kd.R_alloc | apply Kd.R_drewN | apply Kd.R_drew)); exact (Kd.R_mono (Kd.R_far (p := ⟨gb909, 4, none⟩) (Kd.R_far (p := ⟨gb909, 3, none⟩) (Kd.R_far (p := ⟨gb909, 2, none⟩) (Kd.R_far (p := ⟨gb909, 1, none⟩) (Kd.R_far (p := ⟨gb909, 0, none⟩) (Kd.R_types HO907.out BK909.out (by decide)) (fun _ hk => hk.2) (.int .i64 t899)) (fun _ hk => hk.2) (.int .i64 t900)) (fun _ hk => hk.2) (.int .i64 t901)) (fun _ hk => hk.2) (.slice Ao17 t902.length co17)) (fun _ hk => hk.2) (.slice Ao18 t905.length co18)) (fun _ h_ => h_.1))) hb); have n3_ := Aside0.mk (Kd.R_lower ho0 (below_size (pB HB))); have n4_ := Aside0.mk (blk_below (g := gb893) (o := .cells #[.int .u8 a0_0, .int .u8 a0_1] 22 (0, 0)) (by (with_reducible repeat (first|refine bN ?_ _|refine bD ?_|refine bA ?_ _)); refine blk_far ?_ NB893_909.out _; (with_reducible repeat (first|refine bN ?_ _|refine bD ?_|refine bA ?_ _)); refine blk_far ?_ NB893_909.out _; (with_reducible repeat (first|refine bN ?_ _|refine bD ?_|refine bA ?_ _)); refine blk_far ?_ NB893_909.out _; (with_reducible repeat (first|refine bN ?_ _|refine bD ?_|refine bA ?_ _)); refine blk_far ?_ NB893_909.out _; (with_reducible repeat (first|refine bN ?_ _|refine bD ?_|refine bA ?_ _)); refine blk_far ?_ NB893_909.out _; (with_reducible repeat (first|refine bN ?_ _|refine bD ?_|refine bA ?_ _)); exact BK893.out) hb); have n5_ := Aside0.mk (blk_below (g := gb909) (o := .cells #[.int .i64 t899, .int .i64 t900, .int .i64 t901, .slice Ao17 t902.length co17, .slice Ao18 t905.length co18] 30 (0, 0)) (by (with_reducible repeat (first|refine bN ?_ _|refine bD ?_|refine bA ?_ _)); refine blk_put (cs := #[.int .i64 t899, .int .i64 t900, .int .i64 t901, .slice Ao17 t902.length co17, .slice none 0 0]) ?_ 4 _ rfl; (with_reducible repeat (first|refine bN ?_ _|refine bD ?_|refine bA ?_ _)); refine blk_put (cs := #[.int .i64 t899, .int .i64 t900, .int .i64 t901, .slice none 0 0, .slice none 0 0]) ?_ 3 _ rfl; (with_reducible repeat (first|refine bN ?_ _|refine bD ?_|refine bA ?_ _)); refine blk_put (cs := #[.int .i64 t899, .int .i64 t900, .int .i64 0, .slice none 0 0, .slice none 0 0]) ?_ 2 _ rfl; (with_reducible repeat (first|refine bN ?_ _|refine bD ?_|refine bA ?_ _)); refine blk_put (cs := #[.int .i64 t899, .int .i64 0, .int .i64 0, .slice none 0 0, .slice none 0 0]) ?_ 1 _ rfl; (with_reducible repeat (first|refine bN ?_ _|refine bD ?_|refine bA ?_ _)); refine blk_put (cs := #[.int .i64 0, .int .i64 0, .int .i64 0, .slice none 0 0, .slice none 0 0]) ?_ 0 _ rfl; (with_reducible repeat (first|refine bN ?_ _|refine bD ?_|refine bA ?_ _)); exact BK909.out) hb); have n6_ := Aside0.mk (below_step (pB HB) hb); clear HO898; clear HO904; clear HO907; clear BK893; clear BK909; clear HB; have HO898 := n0_; have HO904 := n1_; have HO907 := n2_; have HO912 := n3_; have BK893 := n4_; have BK909 := n5_; have HB := n6_; clear n0_ n1_ n2_ n3_ n4_ n5_ n6_; (try clear hb); (try clear hb2); (try clear hk); (try clear hi); (try clear ho0)))
  go_loopg [11, 13] k (fun kq v11 v13 w' => ∃ (x11_1 : List (S52)) (x13_1 : Int) (x910000_1 : Int) (x910001_1 : Int) (x910002_1 : Int) (x910003_1 : List Int) (x910004_1 : List (S50)) (u910003 : Value) (u910004 : Value), v13 = .int .i64 x13_1 ∧ Aside0 (insolvencylaw33_DocketOnce.l0 kq a3 x11_1 t910 x13_1 x910000_1 x910001_1 x910002_1 x910003_1 x910004_1 = some r) ∧ Aside0 (kq ≤ k) ∧ Aside0 (Kd.R k52 52 w' w.heap.size (fun _ => True) v11 x11_1) ∧ Aside0 (Kd.R k47 47 w' w.heap.size (fun _ => True) v911 t910) ∧ Aside0 (Kd.R (Kd.int .i64) 3 w' w.heap.size (fun _ => True) u910003 x910003_1) ∧ Aside0 (Kd.R k50 50 w' w.heap.size (fun _ => True) u910004 x910004_1) ∧ Aside0 (w'.heap[gb893]? = some (.cells #[.int .u8 a0_0, .int .u8 a0_1] 22 (0, 0))) ∧ Aside0 (w'.heap[gb909]? = some (.cells #[.int .i64 x910000_1, .int .i64 x910001_1, .int .i64 x910002_1, u910003, u910004] 30 (0, 0))) ∧ Aside0 (Below w.heap.size w w'))
  case atStart => exact ⟨(([] : List (S52))), (0), (t899), (t900), (t901), (t902), (t905), (.slice Ao17 t902.length co17), (.slice Ao18 t905.length co18), (by first | rfl | (simp; done) | (simp [*]; done)), H', ⟨Nat.le_refl _⟩, ⟨by first | exact Kd.R_nil _ _ _ _ _ | exact Kd.N_nil _ _ _ _ _ | exact Kd.V_nil _ _ _ _ _ | exact Kd.Q_nil _ _ _ _ _ | exact Kd.S_nil _ _ _ _ _⟩, ⟨by (with_reducible repeat (first | apply Kd.R_alloc | apply Kd.R_drewN | apply Kd.R_drew)); exact HO912.out⟩, ⟨by (with_reducible repeat (first | apply Kd.R_alloc | apply Kd.R_drewN | apply Kd.R_drew)); exact Kd.R_mono HO904.out (fun _ hk => trivial)⟩, ⟨by (with_reducible repeat (first | apply Kd.R_alloc | apply Kd.R_drewN | apply Kd.R_drew)); exact HO907.out⟩, ⟨by (with_reducible repeat (first|refine bN ?_ _|refine bD ?_|refine bA ?_ _)); exact BK893.out⟩, ⟨by (with_reducible repeat (first|refine bN ?_ _|refine bD ?_|refine bA ?_ _)); exact BK909.out⟩, ⟨pB HB⟩⟩
  case round =>
   clear H'
   try clear c1
   try clear c2
   try clear p2
   try clear c4
   try clear c7
   try clear c7b0
   try clear c7b1
   try clear c15
   try clear c17
   try clear c18
   try clear c19
   obtain ⟨x11_1, x13_1, x910000_1, x910001_1, x910002_1, x910003_1, x910004_1, u910003, u910004, rfl, HA, HK1, HO_11, HO_12, HO_910003, HO_910004, BK893, BK909, HB⟩ := hrel
   cases gk with
   | zero => exact absurd HA.out (by simp [insolvencylaw33_DocketOnce.l0])
   | succ k1 =>
    have H := HA.out
    clear HA
    simp only [insolvencylaw33_DocketOnce.l0] at H
    by_cases c20 : x13_1 < (t910.length : Int)
    ·rw [if_pos c20] at H
     have c20b0 : decide (x13_1 < (t910.length : Int)) = true := decide_eq_true c20
     clear c20
     by_cases c21 : 0 ≤ x13_1
     ·rw [if_pos c21] at H
      have c21b0 : decide (0 ≤ x13_1) = true := decide_eq_true c21
      clear c21
      replace H := Option.bind_eq_some_iff.mp H
      obtain ⟨⟨t914, t915, t916, t917, t920, t923, t926⟩, A220, H⟩ := H
      replace H : (if t926 = 0 then (if x11_1.length + t923.length < 5864062014805 then ((docket_Check.f k1 t914 t915 t916 t917 t920).bind fun t931 => (if t931 = 0 then (insolvencylaw33_DocketOnce.l0 k1 a3 (x11_1 ++ t923) t910 (wrap64 (x13_1 + 1)) t914 t915 t916 t917 t920) else (none))) else (none)) else ((docket_Check.f k1 x910000_1 x910001_1 x910002_1 x910003_1 x910004_1).bind fun t932 => (if t932 = 0 then (insolvencylaw33_DocketOnce.l0 k1 a3 x11_1 t910 (wrap64 (x13_1 + 1)) x910000_1 x910001_1 x910002_1 x910003_1 x910004_1) else (none)))) = some r := H
      have A22 := Aside0.mk A220
      clear A220
      by_cases c23 : t926 = 0
      ·rw [if_pos c23] at H
       have c23b0 : (t926 == 0) = true := beq_iff_eq.mpr c23
       have c23b1 : (t926 != 0) = false := bne_eq_false_iff_eq.mpr c23
       clear c23
       by_cases c24 : x11_1.length + t923.length < 5864062014805
       ·rw [if_pos c24] at H
        have LMc24 := Aside0.mk c24
        clear c24
        obtain ⟨y928, hy928⟩ : ∃ y_ : List (S52), y_ = (x11_1 ++ t923) := ⟨_, rfl⟩
        replace H : ((docket_Check.f k1 t914 t915 t916 t917 t920).bind fun t931 => (if t931 = 0 then (insolvencylaw33_DocketOnce.l0 k1 a3 y928 t910 (wrap64 (x13_1 + 1)) t914 t915 t916 t917 t920) else (none))) = some r := by first | (rw [hy928]; with_reducible exact H) | (have H2_ := (Option.bind_some _ _).symm.trans H; rw [hy928]; with_reducible exact H2_) | (have H2_ := (Option.bind_some _ _).symm.trans H; with_reducible exact H2_) | with_reducible exact H | (rw [hy928]; exact H) | exact H
        have Ny928 := Aside0.mk hy928
        clear hy928
        replace H := Option.bind_eq_some_iff.mp H
        obtain ⟨t931, A250, H⟩ := H
        replace H : (if t931 = 0 then (insolvencylaw33_DocketOnce.l0 k1 a3 y928 t910 (wrap64 (x13_1 + 1)) t914 t915 t916 t917 t920) else (none)) = some r := H
        have A25 := Aside0.mk A250
        clear A250
        by_cases c26 : t931 = 0
        ·rw [if_pos c26] at H
         have c26b0 : (t931 == 0) = true := beq_iff_eq.mpr c26
         have c26b1 : (t931 != 0) = false := bne_eq_false_iff_eq.mpr c26
         clear c26
         have H' := Aside0.mk H
         clear H
         obtain ⟨Ao27, co27, eo27⟩ := Kd.R_slice HO_12.out
         subst eo27
         obtain ⟨Ao28, co28, eo28⟩ := Kd.R_slice HO_910003.out
         subst eo28
         obtain ⟨Ao29, co29, eo29⟩ := Kd.R_slice HO_910004.out
         subst eo29
         try go_wp2
         have n0_ := Aside0.mk (Kd.R_drew HO_11.out)
         have n1_ := Aside0.mk (Kd.R_drew HO_12.out)
         have n2_ := Aside0.mk (Kd.R_drew HO_910003.out)
         have n3_ := Aside0.mk (Kd.R_drew HO_910004.out)
         have n4_ := Aside0.mk (blk_drew BK893.out)
         have n5_ := Aside0.mk (blk_drew BK909.out)
         have n6_ := Aside0.mk (below_drew1 HB.out)
         clear HO_11
         clear HO_12
         clear HO_910003
         clear HO_910004
         clear BK893
         clear BK909
         clear HB
         have HO_11 := n0_
         have HO_12 := n1_
         have HO_910003 := n2_
         have HO_910004 := n3_
         have BK893 := n4_
         have BK909 := n5_
         have HB := n6_
         clear n0_ n1_ n2_ n3_ n4_ n5_ n6_
         have p913 : 0 ≤ (x13_1 : Int) := of_decide_eq_true (by assumption)
         have q913 : x13_1 < (t910.length : Int) := of_decide_eq_true (by assumption)
         obtain ⟨Aq38, cq38, eq38⟩ := Kd.R_slice HO_12.out
         (first | subst eq38 | clear eq38)
         obtain ⟨ad913, e913, hx913_0, hx913_1, hx913_2, hx913_3⟩ := at_T47 (Kd.R_reads' HO_12.out).2.2 x13_1 p913 q913
         cases e913
         replace p913 := eq_true p913
         replace q913 := eq_true q913
         refine start_ (n := 14) (S := fun w' => w'.cell? ⟨gb909, 0, none⟩ = some (.int .i64 x910000_1) ∧ w'.cell? ⟨gb909, 1, none⟩ = some (.int .i64 x910001_1) ∧ w'.cell? ⟨gb909, 2, none⟩ = some (.int .i64 x910002_1) ∧ w'.cell? ⟨gb909, 3, none⟩ = some (.slice Ao28 x910003_1.length co28) ∧ w'.cell? ⟨gb909, 4, none⟩ = some (.slice Ao29 x910004_1.length co29) ∧ w'.cell? (ad913.add ((x13_1).toNat * 4)) = some (.int .i64 ((rd_T47 t910 x13_1).f0)) ∧ w'.cell? ⟨(ad913.add ((x13_1).toNat * 4)).block, (ad913.add ((x13_1).toNat * 4)).off + 1, none⟩ = some (.int .i64 ((rd_T47 t910 x13_1).f1)) ∧ w'.cell? ⟨(ad913.add ((x13_1).toNat * 4)).block, (ad913.add ((x13_1).toNat * 4)).off + 2, none⟩ = some (.int .i64 ((rd_T47 t910 x13_1).f2)) ∧ w'.cell? ⟨(ad913.add ((x13_1).toNat * 4)).block, (ad913.add ((x13_1).toNat * 4)).off + 3, none⟩ = some (.int .i64 ((rd_T47 t910 x13_1).f3))) (ds := []) #[false,false,false,false,false,false,false,false,false,false,false,false,false,false] (by kernel_rfl) rfl rfl ⟨(blk_cell BK909.out 0).trans rfl, (blk_cell BK909.out 1).trans rfl, (blk_cell BK909.out 2).trans rfl, (blk_cell BK909.out 3).trans rfl, (blk_cell BK909.out 4).trans rfl, hx913_0, hx913_1, hx913_2, hx913_3⟩ (fun hHeld => ?_); refine with_tabW insolvencylaw33_DocketOnce.tab9 insolvencylaw33_DocketOnce.bits9 (fun HT_ HW_ => ?_)
         generalize wr.drew = w30 at HO_11 HO_12 HO_910003 HO_910004 BK893 BK909 HB hx913_0 hx913_1 hx913_2 hx913_3 hHeld ⊢
         refine pure_ (i := 1) (N := some 44) (v := ?_) (a' := ?_) #[false,true,false,false,false,false,false,false,false,false,false,false,false,false] rfl rfl (any_of HT_.out (by kernel_rfl)) (fun _ _ _ h => h) (Or.inl ⟨by rfl, ?_⟩) ?_ ?_
         rotate_left
         ·intro w'
          go_simp
          with_reducible rfl
         rotate_left
         ·simp only [Act.put,sT,sZ,sU,i64_w,i32_w]
          rfl
         refine pure_ (i := 2) (N := some 45) (v := ?_) (a' := ?_) #[false,true,true,false,false,false,false,false,false,false,false,false,false,false] rfl rfl (any_of HT_.out (by kernel_rfl)) (fun _ _ _ h => h) (Or.inl ⟨by rfl, ?_⟩) ?_ ?_
         rotate_left
         ·intro w'
          go_simp
          with_reducible rfl
         rotate_left
         ·simp only [Act.put,sT,sZ,sU,i64_w,i32_w]
          rfl
         refine pure_ (i := 3) (N := some 46) (v := ?_) (a' := ?_) #[false,true,true,true,false,false,false,false,false,false,false,false,false,false] rfl rfl (any_of HT_.out (by kernel_rfl)) (fun _ _ _ h => h) (Or.inl ⟨by rfl, ?_⟩) ?_ ?_
         rotate_left
         ·intro w'
          go_simp
          with_reducible rfl
         rotate_left
         ·simp only [Act.put,sT,sZ,sU,i64_w,i32_w]
          rfl
         refine take_ (i := 0) (N := some 43) (v := ?_) (a' := ?_) #[true,true,true,true,false,false,false,false,false,false,false,false,false,false] rfl rfl (take_ofW HT_.out HW_.out (by kernel_rfl)) (fun _ _ _ h => h) (Or.inl ⟨by rfl, ?_⟩) hHeld ?_ ?_
         rotate_left
         ·rintro w' ⟨s0, s1, s2, s3, s4, s5, s6, s7, s8⟩
          go_simp
          with_reducible rfl
         rotate_left
         ·simp only [Act.put,sT,sZ,sU,i64_w,i32_w]
          rfl
         refine take_ (i := 4) (N := some 47) (v := ?_) (a' := ?_) #[true,true,true,true,true,false,false,false,false,false,false,false,false,false] rfl rfl (take_ofW HT_.out HW_.out (by kernel_rfl)) (fun _ _ _ h => h) (Or.inl ⟨by rfl, ?_⟩) hHeld ?_ ?_
         rotate_left
         ·rintro w' ⟨s0, s1, s2, s3, s4, s5, s6, s7, s8⟩
          go_simp
          with_reducible rfl
         rotate_left
         ·simp only [Act.put,sT,sZ,sU,i64_w,i32_w]
          rfl
         refine join_ (σ := Value × Value × Value × Nat) 3 #[true,true,true,true,true,true,true,true,true,true,true,false,false,false] (fun s_ => [(48, .tuple #[.agg #[.int .i64 t914, .int .i64 t915, .int .i64 t916, s_.1, s_.2.1], s_.2.2.1, .int .i64 t926]), (14, .pointer (some ⟨s_.2.2.2, 0, none⟩)), (42, .tuple #[.agg #[.int .i64 t914, .int .i64 t915, .int .i64 t916, s_.1, s_.2.1], s_.2.2.1, .int .i64 t926]), (49, .agg #[.int .i64 t914, .int .i64 t915, .int .i64 t916, s_.1, s_.2.1]), (50, s_.2.2.1), (51, .int .i64 t926)]) (fun s_ w' => (w'.cell? ⟨gb909, 0, none⟩ = some (.int .i64 x910000_1) ∧ w'.cell? ⟨gb909, 1, none⟩ = some (.int .i64 x910001_1) ∧ w'.cell? ⟨gb909, 2, none⟩ = some (.int .i64 x910002_1) ∧ w'.cell? ⟨gb909, 3, none⟩ = some (.slice Ao28 x910003_1.length co28) ∧ w'.cell? ⟨gb909, 4, none⟩ = some (.slice Ao29 x910004_1.length co29) ∧ w'.cell? (ad913.add ((x13_1).toNat * 4)) = some (.int .i64 ((rd_T47 t910 x13_1).f0)) ∧ w'.cell? ⟨(ad913.add ((x13_1).toNat * 4)).block, (ad913.add ((x13_1).toNat * 4)).off + 1, none⟩ = some (.int .i64 ((rd_T47 t910 x13_1).f1)) ∧ w'.cell? ⟨(ad913.add ((x13_1).toNat * 4)).block, (ad913.add ((x13_1).toNat * 4)).off + 2, none⟩ = some (.int .i64 ((rd_T47 t910 x13_1).f2)) ∧ w'.cell? ⟨(ad913.add ((x13_1).toNat * 4)).block, (ad913.add ((x13_1).toNat * 4)).off + 3, none⟩ = some (.int .i64 ((rd_T47 t910 x13_1).f3))) ∧ (Kd.R (Kd.int .i64) 3 w' w.heap.size (fun k_ => some k_ ≠ (.slice Ao28 x910003_1.length co28 : Value).ownBlock) s_.1 t917) ∧ (Kd.R k50 50 w' w.heap.size (fun k_ => some k_ ≠ (.slice Ao29 x910004_1.length co29 : Value).ownBlock) s_.2.1 t920) ∧ (Kd.R k52 52 w' w.heap.size (fun k_ => some k_ ≠ (u11 : Value).ownBlock) s_.2.2.1 t923) ∧ (Kd.R k52 52 w' w.heap.size (fun k_ => some k_ ≠ (s_.2.2.1 : Value).ownBlock) u11 x11_1) ∧ (Kd.R k47 47 w' w.heap.size (fun _ => True) (.slice (some ad913) t910.length co27) t910) ∧ (Kd.R (Kd.int .i64) 3 w' w.heap.size (fun k_ => some k_ ≠ (s_.1 : Value).ownBlock) (.slice Ao28 x910003_1.length co28) x910003_1) ∧ (Kd.R k50 50 w' w.heap.size (fun k_ => some k_ ≠ (s_.2.1 : Value).ownBlock) (.slice Ao29 x910004_1.length co29) x910004_1) ∧ (w'.heap[gb893]? = some (.cells #[.int .u8 a0_0, .int .u8 a0_1] 22 (0, 0))) ∧ (w'.heap[gb909]? = some (.cells #[.int .i64 x910000_1, .int .i64 x910001_1, .int .i64 x910002_1, .slice Ao28 x910003_1.length co28, .slice Ao29 x910004_1.length co29] 30 (0, 0))) ∧ (w'.heap[s_.2.2.2]? = some (.cells #[.int .i64 0, .int .i64 0, .int .i64 0, .slice none 0 0, .slice none 0 0] 30 (0, 0))) ∧ (w.heap.size ≤ s_.2.2.2) ∧ (w.heap.size ≤ s_.2.2.2) ∧ (gb893 ≠ s_.2.2.2) ∧ (s_.2.2.2 ≠ gb893) ∧ (gb909 ≠ s_.2.2.2) ∧ (s_.2.2.2 ≠ gb909) ∧ (Below w.heap.size w w')) ?_ ?_
         rotate_left
         ·intro hCont
          refine two_ (i := 5) (j := 10) (Ni := some 48) (Nj := some 14) #[true,true,true,true,true,true,false,false,false,false,false,false,false,false] #[true,true,true,true,true,false,false,false,false,false,true,false,false,false] rfl rfl rfl rfl (two_of HT_.out (by kernel_rfl)) (by decide) (by decide) (fun K hK => ?_) (fun K hK => ?_)
          ·skip
           refine goes_ Try.func20 (by kernel_rfl) rfl #[.agg #[.int .i64 x910000_1, .int .i64 x910001_1, .int .i64 x910002_1, .slice Ao28 x910003_1.length co28, .slice Ao29 x910004_1.length co29], .agg #[.int .i64 ((rd_T47 t910 x13_1).f0), .int .i64 ((rd_T47 t910 x13_1).f1), .int .i64 ((rd_T47 t910 x13_1).f2), .int .i64 ((rd_T47 t910 x13_1).f3)]] (by rfl) rfl rfl (by (try simp only [List.map_toArray, List.map_cons, List.map_nil]); first | done | rfl | (simp only [List.length_drop, List.length_take]; rfl)) ?_
           with_reducible refine (docket_File.calls k1 x910000_1 x910001_1 x910002_1 _ _ x910003_1 _ _ x910004_1 ((rd_T47 t910 x13_1).f0) ((rd_T47 t910 x13_1).f1) ((rd_T47 t910 x13_1).f2) ((rd_T47 t910 x13_1).f3) t914 t915 t916 t917 t920 t923 t926 _ ?side1 ?side2 ?side3 ?side4 A22.out).mono ?_
           (case side1 => repeat (first | exact (Kd.R_reads' HO_910003.out).2.2 | (with_reducible refine Kd.C_alloc ?_ _) | (with_reducible refine Kd.C_drewN ?_ _) | (with_reducible refine Kd.C_drew ?_)))
           (case side2 => exact (Kd.R_reads' HO_910003.out).2.1)
           (case side3 => repeat (first | exact (Kd.R_reads' HO_910004.out).2.2 | (with_reducible refine Kd.C_alloc ?_ _) | (with_reducible refine Kd.C_drewN ?_ _) | (with_reducible refine Kd.C_drew ?_)))
           (case side4 => exact (Kd.R_reads' HO_910004.out).2.1)
           rintro e w31 ⟨v918, v921, v924, rfl, ho0, ho1, ho2, hb⟩
           have HS5_ := (hb.cell (World.block_lt_of_cell? _ _ (hHeld.2.2.2.2.2.1))).trans (hHeld.2.2.2.2.2.1)
           have HS6_ := (hb.cell (World.block_lt_of_cell? _ _ (hHeld.2.2.2.2.2.2.1))).trans (hHeld.2.2.2.2.2.2.1)
           have HS7_ := (hb.cell (World.block_lt_of_cell? _ _ (hHeld.2.2.2.2.2.2.2.1))).trans (hHeld.2.2.2.2.2.2.2.1)
           have HS8_ := (hb.cell (World.block_lt_of_cell? _ _ (hHeld.2.2.2.2.2.2.2.2))).trans (hHeld.2.2.2.2.2.2.2.2)
           refine ⟨_, rfl, ?_⟩
           have n0_ := Aside0.mk (Kd.R_elder' (by (with_reducible repeat (first | apply Kd.R_alloc | apply Kd.R_drewN | apply Kd.R_drew)); exact HO_11.out) (Kd.R_base ho2) hb)
           have n1_ := rB HO_12 hb
           have n2_ := Aside0.mk (Kd.R_elder' (by (with_reducible repeat (first | apply Kd.R_alloc | apply Kd.R_drewN | apply Kd.R_drew)); exact HO_910003.out) (Kd.R_base ho0) hb)
           have n3_ := Aside0.mk (Kd.R_elder' (by (with_reducible repeat (first | apply Kd.R_alloc | apply Kd.R_drewN | apply Kd.R_drew)); exact HO_910004.out) (Kd.R_base ho1) hb)
           have n4_ := Aside0.mk (Kd.R_lower (Kd.R_new' ho0 (Kd.R_lt (by (with_reducible repeat (first | apply Kd.R_alloc | apply Kd.R_drewN | apply Kd.R_drew)); exact HO_910003.out))) (below_size (pB HB)))
           have n5_ := Aside0.mk (Kd.R_lower (Kd.R_new' ho1 (Kd.R_lt (by (with_reducible repeat (first | apply Kd.R_alloc | apply Kd.R_drewN | apply Kd.R_drew)); exact HO_910004.out))) (below_size (pB HB)))
           have n6_ := Aside0.mk (Kd.R_lower (Kd.R_new' ho2 (Kd.R_lt (by (with_reducible repeat (first | apply Kd.R_alloc | apply Kd.R_drewN | apply Kd.R_drew)); exact HO_11.out))) (below_size (pB HB)))
           have n7_ := bB BK893 hb
           have n8_ := bB BK909 hb
           have n9_ := Aside0.mk (below_step (pB HB) hb)
           clear HO_11
           clear HO_12
           clear HO_910003
           clear HO_910004
           clear BK893
           clear BK909
           clear HB
           have HO_11 := n0_
           have HO_12 := n1_
           have HO_910003 := n2_
           have HO_910004 := n3_
           have HO919 := n4_
           have HO922 := n5_
           have HO925 := n6_
           have BK893 := n7_
           have BK909 := n8_
           have HB := n9_
           clear n0_ n1_ n2_ n3_ n4_ n5_ n6_ n7_ n8_ n9_
           (try clear hb)
           (try clear hb2)
           (try clear hk)
           (try clear hi)
           (try clear ho0)
           (try clear ho1)
           (try clear ho2)
           refine hK.out _ _ ⟨(blk_cell BK909.out 0).trans rfl, (blk_cell BK909.out 1).trans rfl, (blk_cell BK909.out 2).trans rfl, (blk_cell BK909.out 3).trans rfl, (blk_cell BK909.out 4).trans rfl, HS5_, HS6_, HS7_, HS8_⟩ (fun hHeld => ?_)
           clear hK K
           refine norm_ (a' := ?_) ?_ ?_
           rotate_left
           ·show Act.put _ (some 48) _ = _
            simp only [Act.put,sT,sZ,sU,i64_w,i32_w]
            rfl
           refine pure_ (i := 6) (N := some 42) (v := ?_) (a' := ?_) #[true,true,true,true,true,true,true,false,false,false,false,false,false,false] rfl rfl (any_of HT_.out (by kernel_rfl)) (fun _ _ _ h => h) (Or.inl ⟨by rfl, ?_⟩) ?_ ?_
           rotate_left
           ·intro w'
            go_simp
            with_reducible rfl
           rotate_left
           ·simp only [Act.put,sT,sZ,sU,i64_w,i32_w]
            rfl
           refine pure_ (i := 7) (N := some 49) (v := ?_) (a' := ?_) #[true,true,true,true,true,true,true,true,false,false,false,false,false,false] rfl rfl (any_of HT_.out (by kernel_rfl)) (fun _ _ _ h => h) (Or.inl ⟨by rfl, ?_⟩) ?_ ?_
           rotate_left
           ·intro w'
            go_simp
            with_reducible rfl
           rotate_left
           ·simp only [Act.put,sT,sZ,sU,i64_w,i32_w]
            rfl
           refine pure_ (i := 8) (N := some 50) (v := ?_) (a' := ?_) #[true,true,true,true,true,true,true,true,true,false,false,false,false,false] rfl rfl (any_of HT_.out (by kernel_rfl)) (fun _ _ _ h => h) (Or.inl ⟨by rfl, ?_⟩) ?_ ?_
           rotate_left
           ·intro w'
            go_simp
            with_reducible rfl
           rotate_left
           ·simp only [Act.put,sT,sZ,sU,i64_w,i32_w]
            rfl
           refine pure_ (i := 9) (N := some 51) (v := ?_) (a' := ?_) #[true,true,true,true,true,true,true,true,true,true,false,false,false,false] rfl rfl (any_of HT_.out (by kernel_rfl)) (fun _ _ _ h => h) (Or.inl ⟨by rfl, ?_⟩) ?_ ?_
           rotate_left
           ·intro w'
            go_simp
            with_reducible rfl
           rotate_left
           ·simp only [Act.put,sT,sZ,sU,i64_w,i32_w]
            rfl
           refine one_ (i := 10) (N := some 14) #[true,true,true,true,true,true,true,true,true,true,true,false,false,false] rfl rfl (one_of HT_.out (by kernel_rfl)) (by decide) (fun K hK => ?_)
           refine box_step ?hg (N := 14) ?hd (cs := #[.int .i64 0, .int .i64 0, .int .i64 0, .slice none 0 0, .slice none 0 0]) (t := 30) ?hr ?_; (case hd => rfl); (case hg => rfl); (case hr => first | (go_simp; done) | (go_simp; rfl))
           intro gb927 hg w32 hbox hb
           have HS5_ := (hb.cell (World.block_lt_of_cell? _ _ (hHeld.2.2.2.2.2.1))).trans (hHeld.2.2.2.2.2.1)
           have HS6_ := (hb.cell (World.block_lt_of_cell? _ _ (hHeld.2.2.2.2.2.2.1))).trans (hHeld.2.2.2.2.2.2.1)
           have HS7_ := (hb.cell (World.block_lt_of_cell? _ _ (hHeld.2.2.2.2.2.2.2.1))).trans (hHeld.2.2.2.2.2.2.2.1)
           have HS8_ := (hb.cell (World.block_lt_of_cell? _ _ (hHeld.2.2.2.2.2.2.2.2))).trans (hHeld.2.2.2.2.2.2.2.2)
           have n0_ := rB HO_11 hb
           have n1_ := rB HO_12 hb
           have n2_ := rB HO_910003 hb
           have n3_ := rB HO_910004 hb
           have n4_ := rB HO919 hb
           have n5_ := rB HO922 hb
           have n6_ := rB HO925 hb
           have n7_ := bB BK893 hb
           have n8_ := bB BK909 hb
           have n9_ := Aside0.mk (below_step (pB HB) hb)
           have n10_ := Aside0.mk (hbox)
           have n11_ := Aside0.mk ((by rw [hg]; exact (below_size (pB HB)) : w.heap.size ≤ gb927))
           have n12_ := Aside0.mk ((by rw [hg]; exact (below_size (pB HB)) : w.heap.size ≤ gb927))
           have n13_ := Aside0.mk ((by rw [hg]; exact Nat.ne_of_lt (blk_lt (g := gb893) (o := .cells #[.int .u8 a0_0, .int .u8 a0_1] 22 (0, 0)) (by (with_reducible repeat (first|refine bN ?_ _|refine bD ?_|refine bA ?_ _)); exact BK893.out)) : gb893 ≠ gb927))
           have n14_ := Aside0.mk ((by rw [hg]; exact Nat.ne_of_gt (blk_lt (g := gb893) (o := .cells #[.int .u8 a0_0, .int .u8 a0_1] 22 (0, 0)) (by (with_reducible repeat (first|refine bN ?_ _|refine bD ?_|refine bA ?_ _)); exact BK893.out)) : gb927 ≠ gb893))
           have n15_ := Aside0.mk ((by rw [hg]; exact Nat.ne_of_lt (blk_lt (g := gb909) (o := .cells #[.int .i64 x910000_1, .int .i64 x910001_1, .int .i64 x910002_1, .slice Ao28 x910003_1.length co28, .slice Ao29 x910004_1.length co29] 30 (0, 0)) (by (with_reducible repeat (first|refine bN ?_ _|refine bD ?_|refine bA ?_ _)); exact BK909.out)) : gb909 ≠ gb927))
           have n16_ := Aside0.mk ((by rw [hg]; exact Nat.ne_of_gt (blk_lt (g := gb909) (o := .cells #[.int .i64 x910000_1, .int .i64 x910001_1, .int .i64 x910002_1, .slice Ao28 x910003_1.length co28, .slice Ao29 x910004_1.length co29] 30 (0, 0)) (by (with_reducible repeat (first|refine bN ?_ _|refine bD ?_|refine bA ?_ _)); exact BK909.out)) : gb927 ≠ gb909))
           clear HO_11
           clear HO_12
           clear HO_910003
           clear HO_910004
           clear HO919
           clear HO922
           clear HO925
           clear BK893
           clear BK909
           clear HB
           have HO_11 := n0_
           have HO_12 := n1_
           have HO_910003 := n2_
           have HO_910004 := n3_
           have HO919 := n4_
           have HO922 := n5_
           have HO925 := n6_
           have BK893 := n7_
           have BK909 := n8_
           have HB := n9_
           have BK927 := n10_
           have GW927 := n11_
           have GE927 := n12_
           have NB893_927 := n13_
           have NB927_893 := n14_
           have NB909_927 := n15_
           have NB927_909 := n16_
           clear n0_ n1_ n2_ n3_ n4_ n5_ n6_ n7_ n8_ n9_ n10_ n11_ n12_ n13_ n14_ n15_ n16_
           clear hb hbox hg
           refine hK.out _ _ ⟨(blk_cell BK909.out 0).trans rfl, (blk_cell BK909.out 1).trans rfl, (blk_cell BK909.out 2).trans rfl, (blk_cell BK909.out 3).trans rfl, (blk_cell BK909.out 4).trans rfl, HS5_, HS6_, HS7_, HS8_⟩ (fun hHeld => ?_)
           clear hK K
           refine norm_ (a' := ?_) ?_ ?_
           rotate_left
           ·show Act.put _ (some 14) _ = _
            simp only [Act.put,sT,sZ,sU,i64_w,i32_w]
            rfl
           exact norm_ (by simp only [putAll, Act.put, List.setIfInBounds_toArray, List.set_cons_zero, List.set_cons_succ]) (hCont (v918, v921, v924, gb927) _ ⟨hHeld, (by (with_reducible repeat (first | apply Kd.R_alloc | apply Kd.R_drewN | apply Kd.R_drew)); exact Kd.R_mono HO919.out (fun _ hk => hk.2)), (by (with_reducible repeat (first | apply Kd.R_alloc | apply Kd.R_drewN | apply Kd.R_drew)); exact Kd.R_mono HO922.out (fun _ hk => hk.2)), (by (with_reducible repeat (first | apply Kd.R_alloc | apply Kd.R_drewN | apply Kd.R_drew)); exact Kd.R_mono HO925.out (fun _ hk => hk.2)), (by (with_reducible repeat (first | apply Kd.R_alloc | apply Kd.R_drewN | apply Kd.R_drew)); exact Kd.R_mono HO_11.out (fun _ hk => hk.2)), (by (with_reducible repeat (first | apply Kd.R_alloc | apply Kd.R_drewN | apply Kd.R_drew)); exact HO_12.out), (by (with_reducible repeat (first | apply Kd.R_alloc | apply Kd.R_drewN | apply Kd.R_drew)); exact Kd.R_mono HO_910003.out (fun _ hk => hk.2)), (by (with_reducible repeat (first | apply Kd.R_alloc | apply Kd.R_drewN | apply Kd.R_drew)); exact Kd.R_mono HO_910004.out (fun _ hk => hk.2)), (by (with_reducible repeat (first|refine bN ?_ _|refine bD ?_|refine bA ?_ _)); exact BK893.out), (by (with_reducible repeat (first|refine bN ?_ _|refine bD ?_|refine bA ?_ _)); exact BK909.out), (by (with_reducible repeat (first|refine bN ?_ _|refine bD ?_|refine bA ?_ _)); exact BK927.out), GW927.out, GE927.out, NB893_927.out, NB927_893.out, NB909_927.out, NB927_909.out, (pB HB)⟩)
          ·skip
           refine box_step ?hg (N := 14) ?hd (cs := #[.int .i64 0, .int .i64 0, .int .i64 0, .slice none 0 0, .slice none 0 0]) (t := 30) ?hr ?_; (case hd => rfl); (case hg => rfl); (case hr => first | (go_simp; done) | (go_simp; rfl))
           intro gb927 hg w31 hbox hb
           have HS5_ := (hb.cell (World.block_lt_of_cell? _ _ (hHeld.2.2.2.2.2.1))).trans (hHeld.2.2.2.2.2.1)
           have HS6_ := (hb.cell (World.block_lt_of_cell? _ _ (hHeld.2.2.2.2.2.2.1))).trans (hHeld.2.2.2.2.2.2.1)
           have HS7_ := (hb.cell (World.block_lt_of_cell? _ _ (hHeld.2.2.2.2.2.2.2.1))).trans (hHeld.2.2.2.2.2.2.2.1)
           have HS8_ := (hb.cell (World.block_lt_of_cell? _ _ (hHeld.2.2.2.2.2.2.2.2))).trans (hHeld.2.2.2.2.2.2.2.2)
           have n0_ := rB HO_11 hb
           have n1_ := rB HO_12 hb
           have n2_ := rB HO_910003 hb
           have n3_ := rB HO_910004 hb
           have n4_ := bB BK893 hb
           have n5_ := bB BK909 hb
           have n6_ := Aside0.mk (below_step (pB HB) hb)
           have n7_ := Aside0.mk (hbox)
           have n8_ := Aside0.mk ((by rw [hg]; exact (below_size (pB HB)) : w.heap.size ≤ gb927))
           have n9_ := Aside0.mk ((by rw [hg]; exact (below_size (pB HB)) : w.heap.size ≤ gb927))
           have n10_ := Aside0.mk ((by rw [hg]; exact Nat.ne_of_lt (blk_lt (g := gb893) (o := .cells #[.int .u8 a0_0, .int .u8 a0_1] 22 (0, 0)) (by (with_reducible repeat (first|refine bN ?_ _|refine bD ?_|refine bA ?_ _)); exact BK893.out)) : gb893 ≠ gb927))
           have n11_ := Aside0.mk ((by rw [hg]; exact Nat.ne_of_gt (blk_lt (g := gb893) (o := .cells #[.int .u8 a0_0, .int .u8 a0_1] 22 (0, 0)) (by (with_reducible repeat (first|refine bN ?_ _|refine bD ?_|refine bA ?_ _)); exact BK893.out)) : gb927 ≠ gb893))
           have n12_ := Aside0.mk ((by rw [hg]; exact Nat.ne_of_lt (blk_lt (g := gb909) (o := .cells #[.int .i64 x910000_1, .int .i64 x910001_1, .int .i64 x910002_1, .slice Ao28 x910003_1.length co28, .slice Ao29 x910004_1.length co29] 30 (0, 0)) (by (with_reducible repeat (first|refine bN ?_ _|refine bD ?_|refine bA ?_ _)); exact BK909.out)) : gb909 ≠ gb927))
           have n13_ := Aside0.mk ((by rw [hg]; exact Nat.ne_of_gt (blk_lt (g := gb909) (o := .cells #[.int .i64 x910000_1, .int .i64 x910001_1, .int .i64 x910002_1, .slice Ao28 x910003_1.length co28, .slice Ao29 x910004_1.length co29] 30 (0, 0)) (by (with_reducible repeat (first|refine bN ?_ _|refine bD ?_|refine bA ?_ _)); exact BK909.out)) : gb927 ≠ gb909))
           clear HO_11
           clear HO_12
           clear HO_910003
           clear HO_910004
           clear BK893
           clear BK909
           clear HB
           have HO_11 := n0_
           have HO_12 := n1_
           have HO_910003 := n2_
           have HO_910004 := n3_
           have BK893 := n4_
           have BK909 := n5_
           have HB := n6_
           have BK927 := n7_
           have GW927 := n8_
           have GE927 := n9_
           have NB893_927 := n10_
           have NB927_893 := n11_
           have NB909_927 := n12_
           have NB927_909 := n13_
           clear n0_ n1_ n2_ n3_ n4_ n5_ n6_ n7_ n8_ n9_ n10_ n11_ n12_ n13_
           clear hb hbox hg
           refine hK.out _ _ ⟨(blk_cell BK909.out 0).trans rfl, (blk_cell BK909.out 1).trans rfl, (blk_cell BK909.out 2).trans rfl, (blk_cell BK909.out 3).trans rfl, (blk_cell BK909.out 4).trans rfl, HS5_, HS6_, HS7_, HS8_⟩ (fun hHeld => ?_)
           clear hK K
           refine norm_ (a' := ?_) ?_ ?_
           rotate_left
           ·show Act.put _ (some 14) _ = _
            simp only [Act.put,sT,sZ,sU,i64_w,i32_w]
            rfl
           refine one_ (i := 5) (N := some 48) #[true,true,true,true,true,true,false,false,false,false,true,false,false,false] rfl rfl (one_of HT_.out (by kernel_rfl)) (by decide) (fun K hK => ?_)
           refine goes_ Try.func20 (by kernel_rfl) rfl #[.agg #[.int .i64 x910000_1, .int .i64 x910001_1, .int .i64 x910002_1, .slice Ao28 x910003_1.length co28, .slice Ao29 x910004_1.length co29], .agg #[.int .i64 ((rd_T47 t910 x13_1).f0), .int .i64 ((rd_T47 t910 x13_1).f1), .int .i64 ((rd_T47 t910 x13_1).f2), .int .i64 ((rd_T47 t910 x13_1).f3)]] (by rfl) rfl rfl (by (try simp only [List.map_toArray, List.map_cons, List.map_nil]); first | done | rfl | (simp only [List.length_drop, List.length_take]; rfl)) ?_
           with_reducible refine (docket_File.calls k1 x910000_1 x910001_1 x910002_1 _ _ x910003_1 _ _ x910004_1 ((rd_T47 t910 x13_1).f0) ((rd_T47 t910 x13_1).f1) ((rd_T47 t910 x13_1).f2) ((rd_T47 t910 x13_1).f3) t914 t915 t916 t917 t920 t923 t926 _ ?side1 ?side2 ?side3 ?side4 A22.out).mono ?_
           (case side1 => repeat (first | exact (Kd.R_reads' HO_910003.out).2.2 | (with_reducible refine Kd.C_alloc ?_ _) | (with_reducible refine Kd.C_drewN ?_ _) | (with_reducible refine Kd.C_drew ?_)))
           (case side2 => exact (Kd.R_reads' HO_910003.out).2.1)
           (case side3 => repeat (first | exact (Kd.R_reads' HO_910004.out).2.2 | (with_reducible refine Kd.C_alloc ?_ _) | (with_reducible refine Kd.C_drewN ?_ _) | (with_reducible refine Kd.C_drew ?_)))
           (case side4 => exact (Kd.R_reads' HO_910004.out).2.1)
           rintro e w32 ⟨v918, v921, v924, rfl, ho0, ho1, ho2, hb⟩
           have HS5_ := (hb.cell (World.block_lt_of_cell? _ _ (hHeld.2.2.2.2.2.1))).trans (hHeld.2.2.2.2.2.1)
           have HS6_ := (hb.cell (World.block_lt_of_cell? _ _ (hHeld.2.2.2.2.2.2.1))).trans (hHeld.2.2.2.2.2.2.1)
           have HS7_ := (hb.cell (World.block_lt_of_cell? _ _ (hHeld.2.2.2.2.2.2.2.1))).trans (hHeld.2.2.2.2.2.2.2.1)
           have HS8_ := (hb.cell (World.block_lt_of_cell? _ _ (hHeld.2.2.2.2.2.2.2.2))).trans (hHeld.2.2.2.2.2.2.2.2)
           refine ⟨_, rfl, ?_⟩
           have n0_ := Aside0.mk (Kd.R_elder' (by (with_reducible repeat (first | apply Kd.R_alloc | apply Kd.R_drewN | apply Kd.R_drew)); exact HO_11.out) (Kd.R_base ho2) hb)
           have n1_ := rB HO_12 hb
           have n2_ := Aside0.mk (Kd.R_elder' (by (with_reducible repeat (first | apply Kd.R_alloc | apply Kd.R_drewN | apply Kd.R_drew)); exact HO_910003.out) (Kd.R_base ho0) hb)
           have n3_ := Aside0.mk (Kd.R_elder' (by (with_reducible repeat (first | apply Kd.R_alloc | apply Kd.R_drewN | apply Kd.R_drew)); exact HO_910004.out) (Kd.R_base ho1) hb)
           have n4_ := Aside0.mk (Kd.R_lower (Kd.R_new' ho0 (Kd.R_lt (by (with_reducible repeat (first | apply Kd.R_alloc | apply Kd.R_drewN | apply Kd.R_drew)); exact HO_910003.out))) (below_size (pB HB)))
           have n5_ := Aside0.mk (Kd.R_lower (Kd.R_new' ho1 (Kd.R_lt (by (with_reducible repeat (first | apply Kd.R_alloc | apply Kd.R_drewN | apply Kd.R_drew)); exact HO_910004.out))) (below_size (pB HB)))
           have n6_ := Aside0.mk (Kd.R_lower (Kd.R_new' ho2 (Kd.R_lt (by (with_reducible repeat (first | apply Kd.R_alloc | apply Kd.R_drewN | apply Kd.R_drew)); exact HO_11.out))) (below_size (pB HB)))
           have n7_ := bB BK893 hb
           have n8_ := bB BK909 hb
           have n9_ := bB BK927 hb
           have n10_ := Aside0.mk (below_step (pB HB) hb)
           clear HO_11
           clear HO_12
           clear HO_910003
           clear HO_910004
           clear BK893
           clear BK909
           clear BK927
           clear HB
           have HO_11 := n0_
           have HO_12 := n1_
           have HO_910003 := n2_
           have HO_910004 := n3_
           have HO919 := n4_
           have HO922 := n5_
           have HO925 := n6_
           have BK893 := n7_
           have BK909 := n8_
           have BK927 := n9_
           have HB := n10_
           clear n0_ n1_ n2_ n3_ n4_ n5_ n6_ n7_ n8_ n9_ n10_
           (try clear hb)
           (try clear hb2)
           (try clear hk)
           (try clear hi)
           (try clear ho0)
           (try clear ho1)
           (try clear ho2)
           refine hK.out _ _ ⟨(blk_cell BK909.out 0).trans rfl, (blk_cell BK909.out 1).trans rfl, (blk_cell BK909.out 2).trans rfl, (blk_cell BK909.out 3).trans rfl, (blk_cell BK909.out 4).trans rfl, HS5_, HS6_, HS7_, HS8_⟩ (fun hHeld => ?_)
           clear hK K
           refine norm_ (a' := ?_) ?_ ?_
           rotate_left
           ·show Act.put _ (some 48) _ = _
            simp only [Act.put,sT,sZ,sU,i64_w,i32_w]
            rfl
           refine pure_ (i := 6) (N := some 42) (v := ?_) (a' := ?_) #[true,true,true,true,true,true,true,false,false,false,true,false,false,false] rfl rfl (any_of HT_.out (by kernel_rfl)) (fun _ _ _ h => h) (Or.inl ⟨by rfl, ?_⟩) ?_ ?_
           rotate_left
           ·intro w'
            go_simp
            with_reducible rfl
           rotate_left
           ·simp only [Act.put,sT,sZ,sU,i64_w,i32_w]
            rfl
           refine pure_ (i := 7) (N := some 49) (v := ?_) (a' := ?_) #[true,true,true,true,true,true,true,true,false,false,true,false,false,false] rfl rfl (any_of HT_.out (by kernel_rfl)) (fun _ _ _ h => h) (Or.inl ⟨by rfl, ?_⟩) ?_ ?_
           rotate_left
           ·intro w'
            go_simp
            with_reducible rfl
           rotate_left
           ·simp only [Act.put,sT,sZ,sU,i64_w,i32_w]
            rfl
           refine pure_ (i := 8) (N := some 50) (v := ?_) (a' := ?_) #[true,true,true,true,true,true,true,true,true,false,true,false,false,false] rfl rfl (any_of HT_.out (by kernel_rfl)) (fun _ _ _ h => h) (Or.inl ⟨by rfl, ?_⟩) ?_ ?_
           rotate_left
           ·intro w'
            go_simp
            with_reducible rfl
           rotate_left
           ·simp only [Act.put,sT,sZ,sU,i64_w,i32_w]
            rfl
           refine pure_ (i := 9) (N := some 51) (v := ?_) (a' := ?_) #[true,true,true,true,true,true,true,true,true,true,true,false,false,false] rfl rfl (any_of HT_.out (by kernel_rfl)) (fun _ _ _ h => h) (Or.inl ⟨by rfl, ?_⟩) ?_ ?_
           rotate_left
           ·intro w'
            go_simp
            with_reducible rfl
           rotate_left
           ·simp only [Act.put,sT,sZ,sU,i64_w,i32_w]
            rfl
           exact norm_ (by simp only [putAll, Act.put, List.setIfInBounds_toArray, List.set_cons_zero, List.set_cons_succ]) (hCont (v918, v921, v924, gb927) _ ⟨hHeld, (by (with_reducible repeat (first | apply Kd.R_alloc | apply Kd.R_drewN | apply Kd.R_drew)); exact Kd.R_mono HO919.out (fun _ hk => hk.2)), (by (with_reducible repeat (first | apply Kd.R_alloc | apply Kd.R_drewN | apply Kd.R_drew)); exact Kd.R_mono HO922.out (fun _ hk => hk.2)), (by (with_reducible repeat (first | apply Kd.R_alloc | apply Kd.R_drewN | apply Kd.R_drew)); exact Kd.R_mono HO925.out (fun _ hk => hk.2)), (by (with_reducible repeat (first | apply Kd.R_alloc | apply Kd.R_drewN | apply Kd.R_drew)); exact Kd.R_mono HO_11.out (fun _ hk => hk.2)), (by (with_reducible repeat (first | apply Kd.R_alloc | apply Kd.R_drewN | apply Kd.R_drew)); exact HO_12.out), (by (with_reducible repeat (first | apply Kd.R_alloc | apply Kd.R_drewN | apply Kd.R_drew)); exact Kd.R_mono HO_910003.out (fun _ hk => hk.2)), (by (with_reducible repeat (first | apply Kd.R_alloc | apply Kd.R_drewN | apply Kd.R_drew)); exact Kd.R_mono HO_910004.out (fun _ hk => hk.2)), (by (with_reducible repeat (first|refine bN ?_ _|refine bD ?_|refine bA ?_ _)); exact BK893.out), (by (with_reducible repeat (first|refine bN ?_ _|refine bD ?_|refine bA ?_ _)); exact BK909.out), (by (with_reducible repeat (first|refine bN ?_ _|refine bD ?_|refine bA ?_ _)); exact BK927.out), GW927.out, GE927.out, NB893_927.out, NB927_893.out, NB909_927.out, NB927_909.out, (pB HB)⟩)
         rintro ⟨v918, v921, v924, gb927⟩ w33 ⟨hS_, h0_, h1_, h2_, h3_, h4_, h5_, h6_, h7_, h8_, h9_, h10_, h11_, h12_, h13_, h14_, h15_, h16_⟩
         have n0_ : Aside0 (Kd.R (Kd.int .i64) 3 w33 w.heap.size (fun k_ => some k_ ≠ (.slice Ao28 x910003_1.length co28 : Value).ownBlock) v918 t917) := ⟨h0_⟩
         have n1_ : Aside0 (Kd.R k50 50 w33 w.heap.size (fun k_ => some k_ ≠ (.slice Ao29 x910004_1.length co29 : Value).ownBlock) v921 t920) := ⟨h1_⟩
         have n2_ : Aside0 (Kd.R k52 52 w33 w.heap.size (fun k_ => some k_ ≠ (u11 : Value).ownBlock) v924 t923) := ⟨h2_⟩
         have n3_ : Aside0 (Kd.R k52 52 w33 w.heap.size (fun k_ => some k_ ≠ (v924 : Value).ownBlock) u11 x11_1) := ⟨h3_⟩
         have n4_ : Aside0 (Kd.R k47 47 w33 w.heap.size (fun _ => True) (.slice (some ad913) t910.length co27) t910) := ⟨h4_⟩
         have n5_ : Aside0 (Kd.R (Kd.int .i64) 3 w33 w.heap.size (fun k_ => some k_ ≠ (v918 : Value).ownBlock) (.slice Ao28 x910003_1.length co28) x910003_1) := ⟨h5_⟩
         have n6_ : Aside0 (Kd.R k50 50 w33 w.heap.size (fun k_ => some k_ ≠ (v921 : Value).ownBlock) (.slice Ao29 x910004_1.length co29) x910004_1) := ⟨h6_⟩
         have n7_ : Aside0 (w33.heap[gb893]? = some (.cells #[.int .u8 a0_0, .int .u8 a0_1] 22 (0, 0))) := ⟨h7_⟩
         have n8_ : Aside0 (w33.heap[gb909]? = some (.cells #[.int .i64 x910000_1, .int .i64 x910001_1, .int .i64 x910002_1, .slice Ao28 x910003_1.length co28, .slice Ao29 x910004_1.length co29] 30 (0, 0))) := ⟨h8_⟩
         have n9_ : Aside0 (w33.heap[gb927]? = some (.cells #[.int .i64 0, .int .i64 0, .int .i64 0, .slice none 0 0, .slice none 0 0] 30 (0, 0))) := ⟨h9_⟩
         have n10_ : Aside0 (w.heap.size ≤ gb927) := ⟨h10_⟩
         have n11_ : Aside0 (w.heap.size ≤ gb927) := ⟨h11_⟩
         have n12_ : Aside0 (gb893 ≠ gb927) := ⟨h12_⟩
         have n13_ : Aside0 (gb927 ≠ gb893) := ⟨h13_⟩
         have n14_ : Aside0 (gb909 ≠ gb927) := ⟨h14_⟩
         have n15_ : Aside0 (gb927 ≠ gb909) := ⟨h15_⟩
         have n16_ : Aside0 (Below w.heap.size w w33) := ⟨h16_⟩
         clear HO_11
         clear HO_12
         clear HO_910003
         clear HO_910004
         clear BK893
         clear BK909
         clear HB
         clear h0_ h1_ h2_ h3_ h4_ h5_ h6_ h7_ h8_ h9_ h10_ h11_ h12_ h13_ h14_ h15_ h16_
         have HO919 := n0_
         have HO922 := n1_
         have HO925 := n2_
         have HO_11 := n3_
         have HO_12 := n4_
         have HO_910003 := n5_
         have HO_910004 := n6_
         have BK893 := n7_
         have BK909 := n8_
         have BK927 := n9_
         have GW927 := n10_
         have GE927 := n11_
         have NB893_927 := n12_
         have NB927_893 := n13_
         have NB909_927 := n14_
         have NB927_909 := n15_
         have HB := n16_
         clear n0_ n1_ n2_ n3_ n4_ n5_ n6_ n7_ n8_ n9_ n10_ n11_ n12_ n13_ n14_ n15_ n16_
         have hHeld : w33.cell? ⟨gb909, 0, none⟩ = some (.int .i64 x910000_1) ∧ w33.cell? ⟨gb909, 1, none⟩ = some (.int .i64 x910001_1) ∧ w33.cell? ⟨gb909, 2, none⟩ = some (.int .i64 x910002_1) ∧ w33.cell? ⟨gb909, 3, none⟩ = some (.slice Ao28 x910003_1.length co28) ∧ w33.cell? ⟨gb909, 4, none⟩ = some (.slice Ao29 x910004_1.length co29) ∧ w33.cell? (ad913.add ((x13_1).toNat * 4)) = some (.int .i64 ((rd_T47 t910 x13_1).f0)) ∧ w33.cell? ⟨(ad913.add ((x13_1).toNat * 4)).block, (ad913.add ((x13_1).toNat * 4)).off + 1, none⟩ = some (.int .i64 ((rd_T47 t910 x13_1).f1)) ∧ w33.cell? ⟨(ad913.add ((x13_1).toNat * 4)).block, (ad913.add ((x13_1).toNat * 4)).off + 2, none⟩ = some (.int .i64 ((rd_T47 t910 x13_1).f2)) ∧ w33.cell? ⟨(ad913.add ((x13_1).toNat * 4)).block, (ad913.add ((x13_1).toNat * 4)).off + 3, none⟩ = some (.int .i64 ((rd_T47 t910 x13_1).f3)) := hS_
         obtain ⟨Ao37, co37, eo37⟩ := Kd.R_slice HO919.out
         (first | subst eo37 | (injection eo37 with f1_ f2_ f3_; have f4_ := f1_.symm; have f5_ := f3_.symm; clear f1_ f2_ f3_; subst f4_; subst f5_))
         obtain ⟨Ao39, co39, eo39⟩ := Kd.R_slice HO922.out
         (first | subst eo39 | (injection eo39 with f1_ f2_ f3_; have f4_ := f1_.symm; have f5_ := f3_.symm; clear f1_ f2_ f3_; subst f4_; subst f5_))
         refine norm_ (a' := ?_) ?_ ?_
         rotate_left
         ·simp only [putAll, Act.put, List.setIfInBounds_toArray, List.set_cons_zero, List.set_cons_succ]
          rfl
         refine one_ (i := 11) (N := none) #[true,true,true,true,true,true,true,true,true,true,true,true,false,false] rfl rfl (one_of HT_.out (by kernel_rfl)) (by decide) (fun K hK => ?_)
         have hs34 : w33.cell? ⟨gb927, 0, none⟩ = some (.int .i64 0) := (blk_cell BK927.out 0).trans rfl
         have hfs34 := blk_frozen BK927.out 0
         have hns34_0 := NB893_927.out
         have hns34_1 := NB909_927.out
         have hms34_0 := NB927_893.out
         have hms34_1 := NB927_909.out
         have hs35 : w33.cell? ⟨gb927, 1, none⟩ = some (.int .i64 0) := (blk_cell BK927.out 1).trans rfl
         have hfs35 := blk_frozen BK927.out 1
         have hns35_0 := NB893_927.out
         have hns35_1 := NB909_927.out
         have hms35_0 := NB927_893.out
         have hms35_1 := NB927_909.out
         have hs36 : w33.cell? ⟨gb927, 2, none⟩ = some (.int .i64 0) := (blk_cell BK927.out 2).trans rfl
         have hfs36 := blk_frozen BK927.out 2
         have hns36_0 := NB893_927.out
         have hns36_1 := NB909_927.out
         have hms36_0 := NB927_893.out
         have hms36_1 := NB927_909.out
         have hs38 : w33.cell? ⟨gb927, 3, none⟩ = some (.slice none 0 0) := (blk_cell BK927.out 3).trans rfl
         have hfs38 := blk_frozen BK927.out 3
         have hns38_0 := NB893_927.out
         have hns38_1 := NB909_927.out
         have hms38_0 := NB927_893.out
         have hms38_1 := NB927_909.out
         have hs40 : w33.cell? ⟨gb927, 4, none⟩ = some (.slice none 0 0) := (blk_cell BK927.out 4).trans rfl
         have hfs40 := blk_frozen BK927.out 4
         have hns40_0 := NB893_927.out
         have hns40_1 := NB909_927.out
         have hms40_0 := NB927_893.out
         have hms40_1 := NB927_909.out
         refine skip_ (w1 := ?_) (by rfl) rfl ?_ ?_
         rotate_left
         ·go_simp
          rfl
         refine hK.out _ _ ⟨((cell_far (p := ⟨gb927, _, none⟩) NB909_927.out _).trans (((cell_far (p := ⟨gb927, _, none⟩) NB909_927.out _).trans (((cell_far (p := ⟨gb927, _, none⟩) NB909_927.out _).trans (((cell_far (p := ⟨gb927, _, none⟩) NB909_927.out _).trans (((cell_far (p := ⟨gb927, _, none⟩) NB909_927.out _).trans (hHeld.1)))))))))), ((cell_far (p := ⟨gb927, _, none⟩) NB909_927.out _).trans (((cell_far (p := ⟨gb927, _, none⟩) NB909_927.out _).trans (((cell_far (p := ⟨gb927, _, none⟩) NB909_927.out _).trans (((cell_far (p := ⟨gb927, _, none⟩) NB909_927.out _).trans (((cell_far (p := ⟨gb927, _, none⟩) NB909_927.out _).trans (hHeld.2.1)))))))))), ((cell_far (p := ⟨gb927, _, none⟩) NB909_927.out _).trans (((cell_far (p := ⟨gb927, _, none⟩) NB909_927.out _).trans (((cell_far (p := ⟨gb927, _, none⟩) NB909_927.out _).trans (((cell_far (p := ⟨gb927, _, none⟩) NB909_927.out _).trans (((cell_far (p := ⟨gb927, _, none⟩) NB909_927.out _).trans (hHeld.2.2.1)))))))))), ((cell_far (p := ⟨gb927, _, none⟩) NB909_927.out _).trans (((cell_far (p := ⟨gb927, _, none⟩) NB909_927.out _).trans (((cell_far (p := ⟨gb927, _, none⟩) NB909_927.out _).trans (((cell_far (p := ⟨gb927, _, none⟩) NB909_927.out _).trans (((cell_far (p := ⟨gb927, _, none⟩) NB909_927.out _).trans (hHeld.2.2.2.1)))))))))), ((cell_far (p := ⟨gb927, _, none⟩) NB909_927.out _).trans (((cell_far (p := ⟨gb927, _, none⟩) NB909_927.out _).trans (((cell_far (p := ⟨gb927, _, none⟩) NB909_927.out _).trans (((cell_far (p := ⟨gb927, _, none⟩) NB909_927.out _).trans (((cell_far (p := ⟨gb927, _, none⟩) NB909_927.out _).trans (hHeld.2.2.2.2.1)))))))))), ((cell_far (p := ⟨gb927, _, none⟩) (by first | exact Kd.own_blk (Kd.R_ne HO_12.out BK927.out (by decide)) | (rw [add_block]; exact Kd.own_blk (Kd.R_ne HO_12.out BK927.out (by decide))) | (show (Addr.add _ _).block ≠ _; rw [add_block]; exact Kd.own_blk (Kd.R_ne HO_12.out BK927.out (by decide))) | (dsimp only; exact Kd.own_blk (Kd.R_ne HO_12.out BK927.out (by decide)))) _).trans (((cell_far (p := ⟨gb927, _, none⟩) (by first | exact Kd.own_blk (Kd.R_ne HO_12.out BK927.out (by decide)) | (rw [add_block]; exact Kd.own_blk (Kd.R_ne HO_12.out BK927.out (by decide))) | (show (Addr.add _ _).block ≠ _; rw [add_block]; exact Kd.own_blk (Kd.R_ne HO_12.out BK927.out (by decide))) | (dsimp only; exact Kd.own_blk (Kd.R_ne HO_12.out BK927.out (by decide)))) _).trans (((cell_far (p := ⟨gb927, _, none⟩) (by first | exact Kd.own_blk (Kd.R_ne HO_12.out BK927.out (by decide)) | (rw [add_block]; exact Kd.own_blk (Kd.R_ne HO_12.out BK927.out (by decide))) | (show (Addr.add _ _).block ≠ _; rw [add_block]; exact Kd.own_blk (Kd.R_ne HO_12.out BK927.out (by decide))) | (dsimp only; exact Kd.own_blk (Kd.R_ne HO_12.out BK927.out (by decide)))) _).trans (((cell_far (p := ⟨gb927, _, none⟩) (by first | exact Kd.own_blk (Kd.R_ne HO_12.out BK927.out (by decide)) | (rw [add_block]; exact Kd.own_blk (Kd.R_ne HO_12.out BK927.out (by decide))) | (show (Addr.add _ _).block ≠ _; rw [add_block]; exact Kd.own_blk (Kd.R_ne HO_12.out BK927.out (by decide))) | (dsimp only; exact Kd.own_blk (Kd.R_ne HO_12.out BK927.out (by decide)))) _).trans (((cell_far (p := ⟨gb927, _, none⟩) (by first | exact Kd.own_blk (Kd.R_ne HO_12.out BK927.out (by decide)) | (rw [add_block]; exact Kd.own_blk (Kd.R_ne HO_12.out BK927.out (by decide))) | (show (Addr.add _ _).block ≠ _; rw [add_block]; exact Kd.own_blk (Kd.R_ne HO_12.out BK927.out (by decide))) | (dsimp only; exact Kd.own_blk (Kd.R_ne HO_12.out BK927.out (by decide)))) _).trans (hHeld.2.2.2.2.2.1)))))))))), ((cell_far (p := ⟨gb927, _, none⟩) (by first | exact Kd.own_blk (Kd.R_ne HO_12.out BK927.out (by decide)) | (rw [add_block]; exact Kd.own_blk (Kd.R_ne HO_12.out BK927.out (by decide))) | (show (Addr.add _ _).block ≠ _; rw [add_block]; exact Kd.own_blk (Kd.R_ne HO_12.out BK927.out (by decide))) | (dsimp only; exact Kd.own_blk (Kd.R_ne HO_12.out BK927.out (by decide)))) _).trans (((cell_far (p := ⟨gb927, _, none⟩) (by first | exact Kd.own_blk (Kd.R_ne HO_12.out BK927.out (by decide)) | (rw [add_block]; exact Kd.own_blk (Kd.R_ne HO_12.out BK927.out (by decide))) | (show (Addr.add _ _).block ≠ _; rw [add_block]; exact Kd.own_blk (Kd.R_ne HO_12.out BK927.out (by decide))) | (dsimp only; exact Kd.own_blk (Kd.R_ne HO_12.out BK927.out (by decide)))) _).trans (((cell_far (p := ⟨gb927, _, none⟩) (by first | exact Kd.own_blk (Kd.R_ne HO_12.out BK927.out (by decide)) | (rw [add_block]; exact Kd.own_blk (Kd.R_ne HO_12.out BK927.out (by decide))) | (show (Addr.add _ _).block ≠ _; rw [add_block]; exact Kd.own_blk (Kd.R_ne HO_12.out BK927.out (by decide))) | (dsimp only; exact Kd.own_blk (Kd.R_ne HO_12.out BK927.out (by decide)))) _).trans (((cell_far (p := ⟨gb927, _, none⟩) (by first | exact Kd.own_blk (Kd.R_ne HO_12.out BK927.out (by decide)) | (rw [add_block]; exact Kd.own_blk (Kd.R_ne HO_12.out BK927.out (by decide))) | (show (Addr.add _ _).block ≠ _; rw [add_block]; exact Kd.own_blk (Kd.R_ne HO_12.out BK927.out (by decide))) | (dsimp only; exact Kd.own_blk (Kd.R_ne HO_12.out BK927.out (by decide)))) _).trans (((cell_far (p := ⟨gb927, _, none⟩) (by first | exact Kd.own_blk (Kd.R_ne HO_12.out BK927.out (by decide)) | (rw [add_block]; exact Kd.own_blk (Kd.R_ne HO_12.out BK927.out (by decide))) | (show (Addr.add _ _).block ≠ _; rw [add_block]; exact Kd.own_blk (Kd.R_ne HO_12.out BK927.out (by decide))) | (dsimp only; exact Kd.own_blk (Kd.R_ne HO_12.out BK927.out (by decide)))) _).trans (hHeld.2.2.2.2.2.2.1)))))))))), ((cell_far (p := ⟨gb927, _, none⟩) (by first | exact Kd.own_blk (Kd.R_ne HO_12.out BK927.out (by decide)) | (rw [add_block]; exact Kd.own_blk (Kd.R_ne HO_12.out BK927.out (by decide))) | (show (Addr.add _ _).block ≠ _; rw [add_block]; exact Kd.own_blk (Kd.R_ne HO_12.out BK927.out (by decide))) | (dsimp only; exact Kd.own_blk (Kd.R_ne HO_12.out BK927.out (by decide)))) _).trans (((cell_far (p := ⟨gb927, _, none⟩) (by first | exact Kd.own_blk (Kd.R_ne HO_12.out BK927.out (by decide)) | (rw [add_block]; exact Kd.own_blk (Kd.R_ne HO_12.out BK927.out (by decide))) | (show (Addr.add _ _).block ≠ _; rw [add_block]; exact Kd.own_blk (Kd.R_ne HO_12.out BK927.out (by decide))) | (dsimp only; exact Kd.own_blk (Kd.R_ne HO_12.out BK927.out (by decide)))) _).trans (((cell_far (p := ⟨gb927, _, none⟩) (by first | exact Kd.own_blk (Kd.R_ne HO_12.out BK927.out (by decide)) | (rw [add_block]; exact Kd.own_blk (Kd.R_ne HO_12.out BK927.out (by decide))) | (show (Addr.add _ _).block ≠ _; rw [add_block]; exact Kd.own_blk (Kd.R_ne HO_12.out BK927.out (by decide))) | (dsimp only; exact Kd.own_blk (Kd.R_ne HO_12.out BK927.out (by decide)))) _).trans (((cell_far (p := ⟨gb927, _, none⟩) (by first | exact Kd.own_blk (Kd.R_ne HO_12.out BK927.out (by decide)) | (rw [add_block]; exact Kd.own_blk (Kd.R_ne HO_12.out BK927.out (by decide))) | (show (Addr.add _ _).block ≠ _; rw [add_block]; exact Kd.own_blk (Kd.R_ne HO_12.out BK927.out (by decide))) | (dsimp only; exact Kd.own_blk (Kd.R_ne HO_12.out BK927.out (by decide)))) _).trans (((cell_far (p := ⟨gb927, _, none⟩) (by first | exact Kd.own_blk (Kd.R_ne HO_12.out BK927.out (by decide)) | (rw [add_block]; exact Kd.own_blk (Kd.R_ne HO_12.out BK927.out (by decide))) | (show (Addr.add _ _).block ≠ _; rw [add_block]; exact Kd.own_blk (Kd.R_ne HO_12.out BK927.out (by decide))) | (dsimp only; exact Kd.own_blk (Kd.R_ne HO_12.out BK927.out (by decide)))) _).trans (hHeld.2.2.2.2.2.2.2.1)))))))))), ((cell_far (p := ⟨gb927, _, none⟩) (by first | exact Kd.own_blk (Kd.R_ne HO_12.out BK927.out (by decide)) | (rw [add_block]; exact Kd.own_blk (Kd.R_ne HO_12.out BK927.out (by decide))) | (show (Addr.add _ _).block ≠ _; rw [add_block]; exact Kd.own_blk (Kd.R_ne HO_12.out BK927.out (by decide))) | (dsimp only; exact Kd.own_blk (Kd.R_ne HO_12.out BK927.out (by decide)))) _).trans (((cell_far (p := ⟨gb927, _, none⟩) (by first | exact Kd.own_blk (Kd.R_ne HO_12.out BK927.out (by decide)) | (rw [add_block]; exact Kd.own_blk (Kd.R_ne HO_12.out BK927.out (by decide))) | (show (Addr.add _ _).block ≠ _; rw [add_block]; exact Kd.own_blk (Kd.R_ne HO_12.out BK927.out (by decide))) | (dsimp only; exact Kd.own_blk (Kd.R_ne HO_12.out BK927.out (by decide)))) _).trans (((cell_far (p := ⟨gb927, _, none⟩) (by first | exact Kd.own_blk (Kd.R_ne HO_12.out BK927.out (by decide)) | (rw [add_block]; exact Kd.own_blk (Kd.R_ne HO_12.out BK927.out (by decide))) | (show (Addr.add _ _).block ≠ _; rw [add_block]; exact Kd.own_blk (Kd.R_ne HO_12.out BK927.out (by decide))) | (dsimp only; exact Kd.own_blk (Kd.R_ne HO_12.out BK927.out (by decide)))) _).trans (((cell_far (p := ⟨gb927, _, none⟩) (by first | exact Kd.own_blk (Kd.R_ne HO_12.out BK927.out (by decide)) | (rw [add_block]; exact Kd.own_blk (Kd.R_ne HO_12.out BK927.out (by decide))) | (show (Addr.add _ _).block ≠ _; rw [add_block]; exact Kd.own_blk (Kd.R_ne HO_12.out BK927.out (by decide))) | (dsimp only; exact Kd.own_blk (Kd.R_ne HO_12.out BK927.out (by decide)))) _).trans (((cell_far (p := ⟨gb927, _, none⟩) (by first | exact Kd.own_blk (Kd.R_ne HO_12.out BK927.out (by decide)) | (rw [add_block]; exact Kd.own_blk (Kd.R_ne HO_12.out BK927.out (by decide))) | (show (Addr.add _ _).block ≠ _; rw [add_block]; exact Kd.own_blk (Kd.R_ne HO_12.out BK927.out (by decide))) | (dsimp only; exact Kd.own_blk (Kd.R_ne HO_12.out BK927.out (by decide)))) _).trans (hHeld.2.2.2.2.2.2.2.2))))))))))⟩ (fun hHeld => ?_)
         clear hK K
         refine pure_ (i := 12) (N := some 15) (v := ?_) (a' := ?_) #[true,true,true,true,true,true,true,true,true,true,true,true,true,false] rfl rfl (any_of HT_.out (by kernel_rfl)) (fun _ _ _ h => h) (Or.inl ⟨by rfl, ?_⟩) ?_ ?_
         rotate_left
         ·intro w'
          go_simp
          with_reducible rfl
         rotate_left
         ·simp only [Act.put,sT,sZ,sU,i64_w,i32_w]
          rfl
         refine pure_ (i := 13) (N := some 16) (v := ?_) (a' := ?_) #[true,true,true,true,true,true,true,true,true,true,true,true,true,true] rfl rfl (any_of HT_.out (by kernel_rfl)) (fun _ _ _ h => h) (Or.inl ⟨by rfl, ?_⟩) ?_ ?_
         rotate_left
         ·intro w'
          go_simp
          with_reducible rfl
         rotate_left
         ·simp only [Act.put,sT,sZ,sU,i64_w,i32_w]
          rfl
         refine done_ (done_of HT_.out (by kernel_rfl)) ?_
         have hnb41 := NB927_893.out
         have hnc41 := NB893_927.out
         have hnb42 := NB927_909.out
         have hnc42 := NB909_927.out
         obtain ⟨hcz43_0, hcz43_1, hcz43_2, hcz43_3, hcz43_4⟩ := cells5 BK927
         obtain ⟨hfz43_0, hfz43_1, hfz43_2, hfz43_3, hfz43_4⟩ := frz5 BK927
         have hnb44 := NB909_893.out
         have hnc44 := NB893_909.out
         obtain ⟨hcz45_0, hcz45_1, hcz45_2, hcz45_3, hcz45_4⟩ := cells5 BK909
         obtain ⟨hfz45_0, hfz45_1, hfz45_2, hfz45_3, hfz45_4⟩ := frz5 BK909
         obtain ⟨Ao47, co47, eo47⟩ := Kd.R_slice HO925.out
         subst eo47
         try go_wp2_with (first | ((with_reducible refine gate_builtin (b := .append) (xs := #[.tmp 55, .tmp 56]) rfl ?_); (try (refine gate_guard (by rfl) ?_; dsimp only)); at_builtin; refine Kd.R_append_rows k52 (w0 := w) w.heap.size rfl (.tmp 55) (.tmp 56) 32 52 (.agg #[(.int .i64 0), (.int .i64 0), (.int .i64 0)]) 24 rfl Try.underlying32 info52 rfl (by decide) (by omega) u11 x11_1 t923 _ _ _ (fun k_ => some k_ ≠ (.slice Ao47 t923.length co47 : Value).ownBlock) (fun _ => False) rfl rfl ?aO ?aR (fun _ _ h => h) (fun _ h => h.elim) ?aF ?aB ?aS ?aL ?_; (case aR => refine (Kd.R_reads' (e := 52) (base := w.heap.size) (ok := fun k_ => some k_ ≠ (u11 : Value).ownBlock) (n := t923.length) (c := co47) ?_).2.2; exact (by (with_reducible repeat (first | apply Kd.R_alloc | apply Kd.R_drewN | apply Kd.R_drew)); exact (Kd.R_mono (Kd.R_mono (Kd.R_far (p := ⟨gb909, 4, none⟩) (Kd.R_far (p := ⟨gb909, 3, none⟩) (Kd.R_far (p := ⟨gb909, 2, none⟩) (Kd.R_far (p := ⟨gb909, 1, none⟩) (Kd.R_far (p := ⟨gb909, 0, none⟩) (Kd.R_far (p := ⟨gb927, 4, none⟩) (Kd.R_far (p := ⟨gb927, 3, none⟩) (Kd.R_far (p := ⟨gb927, 2, none⟩) (Kd.R_far (p := ⟨gb927, 1, none⟩) (Kd.R_far (p := ⟨gb927, 0, none⟩) (Kd.R_types (Kd.R_types HO925.out BK927.out (by decide)) BK909.out (by decide)) (fun _ hk => hk.1.2) (.int .i64 t914)) (fun _ hk => hk.1.2) (.int .i64 t915)) (fun _ hk => hk.1.2) (.int .i64 t916)) (fun _ hk => hk.1.2) (.slice Ao37 t917.length co37)) (fun _ hk => hk.1.2) (.slice Ao39 t920.length co39)) (fun _ hk => hk.2) (.int .i64 t914)) (fun _ hk => hk.2) (.int .i64 t915)) (fun _ hk => hk.2) (.int .i64 t916)) (fun _ hk => hk.2) (.slice Ao37 t917.length co37)) (fun _ hk => hk.2) (.slice Ao39 t920.length co39)) (fun _ h_ => h_.1)) (fun _ h_ => h_.1)))); (case aB => exact (pB HB)); (case aF => exact (fun k_ hk => Kd.fresh' (Kd.R_lt (by (with_reducible repeat (first | apply Kd.R_alloc | apply Kd.R_drewN | apply Kd.R_drew)); exact (Kd.R_mono (Kd.R_mono (Kd.R_far (p := ⟨gb909, 4, none⟩) (Kd.R_far (p := ⟨gb909, 3, none⟩) (Kd.R_far (p := ⟨gb909, 2, none⟩) (Kd.R_far (p := ⟨gb909, 1, none⟩) (Kd.R_far (p := ⟨gb909, 0, none⟩) (Kd.R_far (p := ⟨gb927, 4, none⟩) (Kd.R_far (p := ⟨gb927, 3, none⟩) (Kd.R_far (p := ⟨gb927, 2, none⟩) (Kd.R_far (p := ⟨gb927, 1, none⟩) (Kd.R_far (p := ⟨gb927, 0, none⟩) (Kd.R_types (Kd.R_types HO925.out BK927.out (by decide)) BK909.out (by decide)) (fun _ hk => hk.1.2) (.int .i64 t914)) (fun _ hk => hk.1.2) (.int .i64 t915)) (fun _ hk => hk.1.2) (.int .i64 t916)) (fun _ hk => hk.1.2) (.slice Ao37 t917.length co37)) (fun _ hk => hk.1.2) (.slice Ao39 t920.length co39)) (fun _ hk => hk.2) (.int .i64 t914)) (fun _ hk => hk.2) (.int .i64 t915)) (fun _ hk => hk.2) (.int .i64 t916)) (fun _ hk => hk.2) (.slice Ao37 t917.length co37)) (fun _ hk => hk.2) (.slice Ao39 t920.length co39)) (fun _ h_ => h_.1)) (fun _ h_ => h_.1)))) k_ hk)); (case aO => exact (by (with_reducible repeat (first | apply Kd.R_alloc | apply Kd.R_drewN | apply Kd.R_drew)); exact Kd.R_mono (Kd.R_far (p := ⟨gb909, 4, none⟩) (Kd.R_far (p := ⟨gb909, 3, none⟩) (Kd.R_far (p := ⟨gb909, 2, none⟩) (Kd.R_far (p := ⟨gb909, 1, none⟩) (Kd.R_far (p := ⟨gb909, 0, none⟩) (Kd.R_far (p := ⟨gb927, 4, none⟩) (Kd.R_far (p := ⟨gb927, 3, none⟩) (Kd.R_far (p := ⟨gb927, 2, none⟩) (Kd.R_far (p := ⟨gb927, 1, none⟩) (Kd.R_far (p := ⟨gb927, 0, none⟩) (Kd.R_types (Kd.R_types HO_11.out BK927.out (by decide)) BK909.out (by decide)) (fun _ hk => hk.1.2) (.int .i64 t914)) (fun _ hk => hk.1.2) (.int .i64 t915)) (fun _ hk => hk.1.2) (.int .i64 t916)) (fun _ hk => hk.1.2) (.slice Ao37 t917.length co37)) (fun _ hk => hk.1.2) (.slice Ao39 t920.length co39)) (fun _ hk => hk.2) (.int .i64 t914)) (fun _ hk => hk.2) (.int .i64 t915)) (fun _ hk => hk.2) (.int .i64 t916)) (fun _ hk => hk.2) (.slice Ao37 t917.length co37)) (fun _ hk => hk.2) (.slice Ao39 t920.length co39)) (fun _ hk => hk.1.1))); (case aS => exact (below_size (pB HB))); (case aL => have := LMc24.out; omega); intro v929 w46 ho hb hg hat; rw [← Ny928.out] at ho; have n0_ := Aside0.mk (Kd.R_over' (by (with_reducible repeat (first | apply Kd.R_alloc | apply Kd.R_drewN | apply Kd.R_drew)); exact (Kd.R_mono (Kd.R_mono (Kd.R_far (p := ⟨gb909, 4, none⟩) (Kd.R_far (p := ⟨gb909, 3, none⟩) (Kd.R_far (p := ⟨gb909, 2, none⟩) (Kd.R_far (p := ⟨gb909, 1, none⟩) (Kd.R_far (p := ⟨gb909, 0, none⟩) (Kd.R_far (p := ⟨gb927, 4, none⟩) (Kd.R_far (p := ⟨gb927, 3, none⟩) (Kd.R_far (p := ⟨gb927, 2, none⟩) (Kd.R_far (p := ⟨gb927, 1, none⟩) (Kd.R_far (p := ⟨gb927, 0, none⟩) (Kd.R_types (Kd.R_types HO_12.out BK927.out (by decide)) BK909.out (by decide)) (fun _ hk => hk.1.2) (.int .i64 t914)) (fun _ hk => hk.1.2) (.int .i64 t915)) (fun _ hk => hk.1.2) (.int .i64 t916)) (fun _ hk => hk.1.2) (.slice Ao37 t917.length co37)) (fun _ hk => hk.1.2) (.slice Ao39 t920.length co39)) (fun _ hk => hk.2) (.int .i64 t914)) (fun _ hk => hk.2) (.int .i64 t915)) (fun _ hk => hk.2) (.int .i64 t916)) (fun _ hk => hk.2) (.slice Ao37 t917.length co37)) (fun _ hk => hk.2) (.slice Ao39 t920.length co39)) (fun _ h_ => h_.1)) (fun _ h_ => h_.1))) (Kd.R_typed (by (with_reducible repeat (first | apply Kd.R_alloc | apply Kd.R_drewN | apply Kd.R_drew)); exact (Kd.R_mono (Kd.R_mono (Kd.R_far (p := ⟨gb909, 4, none⟩) (Kd.R_far (p := ⟨gb909, 3, none⟩) (Kd.R_far (p := ⟨gb909, 2, none⟩) (Kd.R_far (p := ⟨gb909, 1, none⟩) (Kd.R_far (p := ⟨gb909, 0, none⟩) (Kd.R_far (p := ⟨gb927, 4, none⟩) (Kd.R_far (p := ⟨gb927, 3, none⟩) (Kd.R_far (p := ⟨gb927, 2, none⟩) (Kd.R_far (p := ⟨gb927, 1, none⟩) (Kd.R_far (p := ⟨gb927, 0, none⟩) (Kd.R_types (Kd.R_types HO_11.out BK927.out (by decide)) BK909.out (by decide)) (fun _ hk => hk.1.2) (.int .i64 t914)) (fun _ hk => hk.1.2) (.int .i64 t915)) (fun _ hk => hk.1.2) (.int .i64 t916)) (fun _ hk => hk.1.2) (.slice Ao37 t917.length co37)) (fun _ hk => hk.1.2) (.slice Ao39 t920.length co39)) (fun _ hk => hk.2) (.int .i64 t914)) (fun _ hk => hk.2) (.int .i64 t915)) (fun _ hk => hk.2) (.int .i64 t916)) (fun _ hk => hk.2) (.slice Ao37 t917.length co37)) (fun _ hk => hk.2) (.slice Ao39 t920.length co39)) (fun _ h_ => h_.1)) (fun _ h_ => h_.1)))) (by decide) hg); have n1_ := Aside0.mk (Kd.R_over' (by (with_reducible repeat (first | apply Kd.R_alloc | apply Kd.R_drewN | apply Kd.R_drew)); exact (Kd.R_mono (Kd.R_mono (Kd.R_far (p := ⟨gb909, 4, none⟩) (Kd.R_far (p := ⟨gb909, 3, none⟩) (Kd.R_far (p := ⟨gb909, 2, none⟩) (Kd.R_far (p := ⟨gb909, 1, none⟩) (Kd.R_far (p := ⟨gb909, 0, none⟩) (Kd.R_far (p := ⟨gb927, 4, none⟩) (Kd.R_far (p := ⟨gb927, 3, none⟩) (Kd.R_far (p := ⟨gb927, 2, none⟩) (Kd.R_far (p := ⟨gb927, 1, none⟩) (Kd.R_far (p := ⟨gb927, 0, none⟩) (Kd.R_types (Kd.R_types HO_910003.out BK927.out (by decide)) BK909.out (by decide)) (fun _ hk => hk.1.2) (.int .i64 t914)) (fun _ hk => hk.1.2) (.int .i64 t915)) (fun _ hk => hk.1.2) (.int .i64 t916)) (fun _ hk => hk.1.2) (.slice Ao37 t917.length co37)) (fun _ hk => hk.1.2) (.slice Ao39 t920.length co39)) (fun _ hk => hk.2) (.int .i64 t914)) (fun _ hk => hk.2) (.int .i64 t915)) (fun _ hk => hk.2) (.int .i64 t916)) (fun _ hk => hk.2) (.slice Ao37 t917.length co37)) (fun _ hk => hk.2) (.slice Ao39 t920.length co39)) (fun _ h_ => h_.1)) (fun _ h_ => h_.1))) (Kd.R_typed (by (with_reducible repeat (first | apply Kd.R_alloc | apply Kd.R_drewN | apply Kd.R_drew)); exact (Kd.R_mono (Kd.R_mono (Kd.R_far (p := ⟨gb909, 4, none⟩) (Kd.R_far (p := ⟨gb909, 3, none⟩) (Kd.R_far (p := ⟨gb909, 2, none⟩) (Kd.R_far (p := ⟨gb909, 1, none⟩) (Kd.R_far (p := ⟨gb909, 0, none⟩) (Kd.R_far (p := ⟨gb927, 4, none⟩) (Kd.R_far (p := ⟨gb927, 3, none⟩) (Kd.R_far (p := ⟨gb927, 2, none⟩) (Kd.R_far (p := ⟨gb927, 1, none⟩) (Kd.R_far (p := ⟨gb927, 0, none⟩) (Kd.R_types (Kd.R_types HO_11.out BK927.out (by decide)) BK909.out (by decide)) (fun _ hk => hk.1.2) (.int .i64 t914)) (fun _ hk => hk.1.2) (.int .i64 t915)) (fun _ hk => hk.1.2) (.int .i64 t916)) (fun _ hk => hk.1.2) (.slice Ao37 t917.length co37)) (fun _ hk => hk.1.2) (.slice Ao39 t920.length co39)) (fun _ hk => hk.2) (.int .i64 t914)) (fun _ hk => hk.2) (.int .i64 t915)) (fun _ hk => hk.2) (.int .i64 t916)) (fun _ hk => hk.2) (.slice Ao37 t917.length co37)) (fun _ hk => hk.2) (.slice Ao39 t920.length co39)) (fun _ h_ => h_.1)) (fun _ h_ => h_.1)))) (by decide) hg); have n2_ := Aside0.mk (Kd.R_over' (by (with_reducible repeat (first | apply Kd.R_alloc | apply Kd.R_drewN | apply Kd.R_drew)); exact (Kd.R_mono (Kd.R_mono (Kd.R_far (p := ⟨gb909, 4, none⟩) (Kd.R_far (p := ⟨gb909, 3, none⟩) (Kd.R_far (p := ⟨gb909, 2, none⟩) (Kd.R_far (p := ⟨gb909, 1, none⟩) (Kd.R_far (p := ⟨gb909, 0, none⟩) (Kd.R_far (p := ⟨gb927, 4, none⟩) (Kd.R_far (p := ⟨gb927, 3, none⟩) (Kd.R_far (p := ⟨gb927, 2, none⟩) (Kd.R_far (p := ⟨gb927, 1, none⟩) (Kd.R_far (p := ⟨gb927, 0, none⟩) (Kd.R_types (Kd.R_types HO_910004.out BK927.out (by decide)) BK909.out (by decide)) (fun _ hk => hk.1.2) (.int .i64 t914)) (fun _ hk => hk.1.2) (.int .i64 t915)) (fun _ hk => hk.1.2) (.int .i64 t916)) (fun _ hk => hk.1.2) (.slice Ao37 t917.length co37)) (fun _ hk => hk.1.2) (.slice Ao39 t920.length co39)) (fun _ hk => hk.2) (.int .i64 t914)) (fun _ hk => hk.2) (.int .i64 t915)) (fun _ hk => hk.2) (.int .i64 t916)) (fun _ hk => hk.2) (.slice Ao37 t917.length co37)) (fun _ hk => hk.2) (.slice Ao39 t920.length co39)) (fun _ h_ => h_.1)) (fun _ h_ => h_.1))) (Kd.R_typed (by (with_reducible repeat (first | apply Kd.R_alloc | apply Kd.R_drewN | apply Kd.R_drew)); exact (Kd.R_mono (Kd.R_mono (Kd.R_far (p := ⟨gb909, 4, none⟩) (Kd.R_far (p := ⟨gb909, 3, none⟩) (Kd.R_far (p := ⟨gb909, 2, none⟩) (Kd.R_far (p := ⟨gb909, 1, none⟩) (Kd.R_far (p := ⟨gb909, 0, none⟩) (Kd.R_far (p := ⟨gb927, 4, none⟩) (Kd.R_far (p := ⟨gb927, 3, none⟩) (Kd.R_far (p := ⟨gb927, 2, none⟩) (Kd.R_far (p := ⟨gb927, 1, none⟩) (Kd.R_far (p := ⟨gb927, 0, none⟩) (Kd.R_types (Kd.R_types HO_11.out BK927.out (by decide)) BK909.out (by decide)) (fun _ hk => hk.1.2) (.int .i64 t914)) (fun _ hk => hk.1.2) (.int .i64 t915)) (fun _ hk => hk.1.2) (.int .i64 t916)) (fun _ hk => hk.1.2) (.slice Ao37 t917.length co37)) (fun _ hk => hk.1.2) (.slice Ao39 t920.length co39)) (fun _ hk => hk.2) (.int .i64 t914)) (fun _ hk => hk.2) (.int .i64 t915)) (fun _ hk => hk.2) (.int .i64 t916)) (fun _ hk => hk.2) (.slice Ao37 t917.length co37)) (fun _ hk => hk.2) (.slice Ao39 t920.length co39)) (fun _ h_ => h_.1)) (fun _ h_ => h_.1)))) (by decide) hg); have n3_ := Aside0.mk (blk_grown (g := gb893) (o := .cells #[.int .u8 a0_0, .int .u8 a0_1] 22 (0, 0)) (by (with_reducible repeat (first|refine bN ?_ _|refine bD ?_|refine bA ?_ _)); refine blk_far ?_ NB893_909.out _; (with_reducible repeat (first|refine bN ?_ _|refine bD ?_|refine bA ?_ _)); refine blk_far ?_ NB893_909.out _; (with_reducible repeat (first|refine bN ?_ _|refine bD ?_|refine bA ?_ _)); refine blk_far ?_ NB893_909.out _; (with_reducible repeat (first|refine bN ?_ _|refine bD ?_|refine bA ?_ _)); refine blk_far ?_ NB893_909.out _; (with_reducible repeat (first|refine bN ?_ _|refine bD ?_|refine bA ?_ _)); refine blk_far ?_ NB893_909.out _; (with_reducible repeat (first|refine bN ?_ _|refine bD ?_|refine bA ?_ _)); refine blk_far ?_ NB893_927.out _; (with_reducible repeat (first|refine bN ?_ _|refine bD ?_|refine bA ?_ _)); refine blk_far ?_ NB893_927.out _; (with_reducible repeat (first|refine bN ?_ _|refine bD ?_|refine bA ?_ _)); refine blk_far ?_ NB893_927.out _; (with_reducible repeat (first|refine bN ?_ _|refine bD ?_|refine bA ?_ _)); refine blk_far ?_ NB893_927.out _; (with_reducible repeat (first|refine bN ?_ _|refine bD ?_|refine bA ?_ _)); refine blk_far ?_ NB893_927.out _; (with_reducible repeat (first|refine bN ?_ _|refine bD ?_|refine bA ?_ _)); exact BK893.out) hg (Kd.R_ne HO_11.out BK893.out (by decide))); have n4_ := Aside0.mk (blk_grown (g := gb909) (o := .cells #[.int .i64 t914, .int .i64 t915, .int .i64 t916, .slice Ao37 t917.length co37, .slice Ao39 t920.length co39] 30 (0, 0)) (by (with_reducible repeat (first|refine bN ?_ _|refine bD ?_|refine bA ?_ _)); refine blk_put (cs := #[.int .i64 t914, .int .i64 t915, .int .i64 t916, .slice Ao37 t917.length co37, .slice Ao29 x910004_1.length co29]) ?_ 4 _ rfl; (with_reducible repeat (first|refine bN ?_ _|refine bD ?_|refine bA ?_ _)); refine blk_put (cs := #[.int .i64 t914, .int .i64 t915, .int .i64 t916, .slice Ao28 x910003_1.length co28, .slice Ao29 x910004_1.length co29]) ?_ 3 _ rfl; (with_reducible repeat (first|refine bN ?_ _|refine bD ?_|refine bA ?_ _)); refine blk_put (cs := #[.int .i64 t914, .int .i64 t915, .int .i64 x910002_1, .slice Ao28 x910003_1.length co28, .slice Ao29 x910004_1.length co29]) ?_ 2 _ rfl; (with_reducible repeat (first|refine bN ?_ _|refine bD ?_|refine bA ?_ _)); refine blk_put (cs := #[.int .i64 t914, .int .i64 x910001_1, .int .i64 x910002_1, .slice Ao28 x910003_1.length co28, .slice Ao29 x910004_1.length co29]) ?_ 1 _ rfl; (with_reducible repeat (first|refine bN ?_ _|refine bD ?_|refine bA ?_ _)); refine blk_put (cs := #[.int .i64 x910000_1, .int .i64 x910001_1, .int .i64 x910002_1, .slice Ao28 x910003_1.length co28, .slice Ao29 x910004_1.length co29]) ?_ 0 _ rfl; (with_reducible repeat (first|refine bN ?_ _|refine bD ?_|refine bA ?_ _)); refine blk_far ?_ NB909_927.out _; (with_reducible repeat (first|refine bN ?_ _|refine bD ?_|refine bA ?_ _)); refine blk_far ?_ NB909_927.out _; (with_reducible repeat (first|refine bN ?_ _|refine bD ?_|refine bA ?_ _)); refine blk_far ?_ NB909_927.out _; (with_reducible repeat (first|refine bN ?_ _|refine bD ?_|refine bA ?_ _)); refine blk_far ?_ NB909_927.out _; (with_reducible repeat (first|refine bN ?_ _|refine bD ?_|refine bA ?_ _)); refine blk_far ?_ NB909_927.out _; (with_reducible repeat (first|refine bN ?_ _|refine bD ?_|refine bA ?_ _)); exact BK909.out) hg (Kd.R_ne HO_11.out BK909.out (by decide))); have n5_ := Aside0.mk (Kd.R_over' (by (with_reducible repeat (first | apply Kd.R_alloc | apply Kd.R_drewN | apply Kd.R_drew)); exact (Kd.R_mono (Kd.R_mono (Kd.R_far (p := ⟨gb909, 4, none⟩) (Kd.R_far (p := ⟨gb909, 3, none⟩) (Kd.R_far (p := ⟨gb909, 2, none⟩) (Kd.R_far (p := ⟨gb909, 1, none⟩) (Kd.R_far (p := ⟨gb909, 0, none⟩) (Kd.R_far (p := ⟨gb927, 4, none⟩) (Kd.R_far (p := ⟨gb927, 3, none⟩) (Kd.R_far (p := ⟨gb927, 2, none⟩) (Kd.R_far (p := ⟨gb927, 1, none⟩) (Kd.R_far (p := ⟨gb927, 0, none⟩) (Kd.R_types (Kd.R_types HO919.out BK927.out (by decide)) BK909.out (by decide)) (fun _ hk => hk.1.2) (.int .i64 t914)) (fun _ hk => hk.1.2) (.int .i64 t915)) (fun _ hk => hk.1.2) (.int .i64 t916)) (fun _ hk => hk.1.2) (.slice Ao37 t917.length co37)) (fun _ hk => hk.1.2) (.slice Ao39 t920.length co39)) (fun _ hk => hk.2) (.int .i64 t914)) (fun _ hk => hk.2) (.int .i64 t915)) (fun _ hk => hk.2) (.int .i64 t916)) (fun _ hk => hk.2) (.slice Ao37 t917.length co37)) (fun _ hk => hk.2) (.slice Ao39 t920.length co39)) (fun _ h_ => h_.1)) (fun _ h_ => h_.1))) (Kd.R_typed (by (with_reducible repeat (first | apply Kd.R_alloc | apply Kd.R_drewN | apply Kd.R_drew)); exact (Kd.R_mono (Kd.R_mono (Kd.R_far (p := ⟨gb909, 4, none⟩) (Kd.R_far (p := ⟨gb909, 3, none⟩) (Kd.R_far (p := ⟨gb909, 2, none⟩) (Kd.R_far (p := ⟨gb909, 1, none⟩) (Kd.R_far (p := ⟨gb909, 0, none⟩) (Kd.R_far (p := ⟨gb927, 4, none⟩) (Kd.R_far (p := ⟨gb927, 3, none⟩) (Kd.R_far (p := ⟨gb927, 2, none⟩) (Kd.R_far (p := ⟨gb927, 1, none⟩) (Kd.R_far (p := ⟨gb927, 0, none⟩) (Kd.R_types (Kd.R_types HO_11.out BK927.out (by decide)) BK909.out (by decide)) (fun _ hk => hk.1.2) (.int .i64 t914)) (fun _ hk => hk.1.2) (.int .i64 t915)) (fun _ hk => hk.1.2) (.int .i64 t916)) (fun _ hk => hk.1.2) (.slice Ao37 t917.length co37)) (fun _ hk => hk.1.2) (.slice Ao39 t920.length co39)) (fun _ hk => hk.2) (.int .i64 t914)) (fun _ hk => hk.2) (.int .i64 t915)) (fun _ hk => hk.2) (.int .i64 t916)) (fun _ hk => hk.2) (.slice Ao37 t917.length co37)) (fun _ hk => hk.2) (.slice Ao39 t920.length co39)) (fun _ h_ => h_.1)) (fun _ h_ => h_.1)))) (by decide) hg); have n6_ := Aside0.mk (Kd.R_over' (by (with_reducible repeat (first | apply Kd.R_alloc | apply Kd.R_drewN | apply Kd.R_drew)); exact (Kd.R_mono (Kd.R_mono (Kd.R_far (p := ⟨gb909, 4, none⟩) (Kd.R_far (p := ⟨gb909, 3, none⟩) (Kd.R_far (p := ⟨gb909, 2, none⟩) (Kd.R_far (p := ⟨gb909, 1, none⟩) (Kd.R_far (p := ⟨gb909, 0, none⟩) (Kd.R_far (p := ⟨gb927, 4, none⟩) (Kd.R_far (p := ⟨gb927, 3, none⟩) (Kd.R_far (p := ⟨gb927, 2, none⟩) (Kd.R_far (p := ⟨gb927, 1, none⟩) (Kd.R_far (p := ⟨gb927, 0, none⟩) (Kd.R_types (Kd.R_types HO922.out BK927.out (by decide)) BK909.out (by decide)) (fun _ hk => hk.1.2) (.int .i64 t914)) (fun _ hk => hk.1.2) (.int .i64 t915)) (fun _ hk => hk.1.2) (.int .i64 t916)) (fun _ hk => hk.1.2) (.slice Ao37 t917.length co37)) (fun _ hk => hk.1.2) (.slice Ao39 t920.length co39)) (fun _ hk => hk.2) (.int .i64 t914)) (fun _ hk => hk.2) (.int .i64 t915)) (fun _ hk => hk.2) (.int .i64 t916)) (fun _ hk => hk.2) (.slice Ao37 t917.length co37)) (fun _ hk => hk.2) (.slice Ao39 t920.length co39)) (fun _ h_ => h_.1)) (fun _ h_ => h_.1))) (Kd.R_typed (by (with_reducible repeat (first | apply Kd.R_alloc | apply Kd.R_drewN | apply Kd.R_drew)); exact (Kd.R_mono (Kd.R_mono (Kd.R_far (p := ⟨gb909, 4, none⟩) (Kd.R_far (p := ⟨gb909, 3, none⟩) (Kd.R_far (p := ⟨gb909, 2, none⟩) (Kd.R_far (p := ⟨gb909, 1, none⟩) (Kd.R_far (p := ⟨gb909, 0, none⟩) (Kd.R_far (p := ⟨gb927, 4, none⟩) (Kd.R_far (p := ⟨gb927, 3, none⟩) (Kd.R_far (p := ⟨gb927, 2, none⟩) (Kd.R_far (p := ⟨gb927, 1, none⟩) (Kd.R_far (p := ⟨gb927, 0, none⟩) (Kd.R_types (Kd.R_types HO_11.out BK927.out (by decide)) BK909.out (by decide)) (fun _ hk => hk.1.2) (.int .i64 t914)) (fun _ hk => hk.1.2) (.int .i64 t915)) (fun _ hk => hk.1.2) (.int .i64 t916)) (fun _ hk => hk.1.2) (.slice Ao37 t917.length co37)) (fun _ hk => hk.1.2) (.slice Ao39 t920.length co39)) (fun _ hk => hk.2) (.int .i64 t914)) (fun _ hk => hk.2) (.int .i64 t915)) (fun _ hk => hk.2) (.int .i64 t916)) (fun _ hk => hk.2) (.slice Ao37 t917.length co37)) (fun _ hk => hk.2) (.slice Ao39 t920.length co39)) (fun _ h_ => h_.1)) (fun _ h_ => h_.1)))) (by decide) hg); have n7_ := Aside0.mk (Kd.R_after (ok := (fun _ => True)) (by (with_reducible repeat (first | apply Kd.R_alloc | apply Kd.R_drewN | apply Kd.R_drew)); exact Kd.R_mono (Kd.R_far (p := ⟨gb909, 4, none⟩) (Kd.R_far (p := ⟨gb909, 3, none⟩) (Kd.R_far (p := ⟨gb909, 2, none⟩) (Kd.R_far (p := ⟨gb909, 1, none⟩) (Kd.R_far (p := ⟨gb909, 0, none⟩) (Kd.R_far (p := ⟨gb927, 4, none⟩) (Kd.R_far (p := ⟨gb927, 3, none⟩) (Kd.R_far (p := ⟨gb927, 2, none⟩) (Kd.R_far (p := ⟨gb927, 1, none⟩) (Kd.R_far (p := ⟨gb927, 0, none⟩) (Kd.R_types (Kd.R_types HO925.out BK927.out (by decide)) BK909.out (by decide)) (fun _ hk => hk.1.2) (.int .i64 t914)) (fun _ hk => hk.1.2) (.int .i64 t915)) (fun _ hk => hk.1.2) (.int .i64 t916)) (fun _ hk => hk.1.2) (.slice Ao37 t917.length co37)) (fun _ hk => hk.1.2) (.slice Ao39 t920.length co39)) (fun _ hk => hk.2) (.int .i64 t914)) (fun _ hk => hk.2) (.int .i64 t915)) (fun _ hk => hk.2) (.int .i64 t916)) (fun _ hk => hk.2) (.slice Ao37 t917.length co37)) (fun _ hk => hk.2) (.slice Ao39 t920.length co39)) (fun _ hk => ⟨trivial, hk.1.1⟩)) hg hat); have n8_ := Aside0.mk (blk_grown (g := gb927) (o := .cells #[.int .i64 t914, .int .i64 t915, .int .i64 t916, .slice Ao37 t917.length co37, .slice Ao39 t920.length co39] 30 (0, 0)) (by (with_reducible repeat (first|refine bN ?_ _|refine bD ?_|refine bA ?_ _)); refine blk_far ?_ NB927_909.out _; (with_reducible repeat (first|refine bN ?_ _|refine bD ?_|refine bA ?_ _)); refine blk_far ?_ NB927_909.out _; (with_reducible repeat (first|refine bN ?_ _|refine bD ?_|refine bA ?_ _)); refine blk_far ?_ NB927_909.out _; (with_reducible repeat (first|refine bN ?_ _|refine bD ?_|refine bA ?_ _)); refine blk_far ?_ NB927_909.out _; (with_reducible repeat (first|refine bN ?_ _|refine bD ?_|refine bA ?_ _)); refine blk_far ?_ NB927_909.out _; (with_reducible repeat (first|refine bN ?_ _|refine bD ?_|refine bA ?_ _)); refine blk_put (cs := #[.int .i64 t914, .int .i64 t915, .int .i64 t916, .slice Ao37 t917.length co37, .slice none 0 0]) ?_ 4 _ rfl; (with_reducible repeat (first|refine bN ?_ _|refine bD ?_|refine bA ?_ _)); refine blk_put (cs := #[.int .i64 t914, .int .i64 t915, .int .i64 t916, .slice none 0 0, .slice none 0 0]) ?_ 3 _ rfl; (with_reducible repeat (first|refine bN ?_ _|refine bD ?_|refine bA ?_ _)); refine blk_put (cs := #[.int .i64 t914, .int .i64 t915, .int .i64 0, .slice none 0 0, .slice none 0 0]) ?_ 2 _ rfl; (with_reducible repeat (first|refine bN ?_ _|refine bD ?_|refine bA ?_ _)); refine blk_put (cs := #[.int .i64 t914, .int .i64 0, .int .i64 0, .slice none 0 0, .slice none 0 0]) ?_ 1 _ rfl; (with_reducible repeat (first|refine bN ?_ _|refine bD ?_|refine bA ?_ _)); refine blk_put (cs := #[.int .i64 0, .int .i64 0, .int .i64 0, .slice none 0 0, .slice none 0 0]) ?_ 0 _ rfl; (with_reducible repeat (first|refine bN ?_ _|refine bD ?_|refine bA ?_ _)); exact BK927.out) hg (Kd.R_ne HO_11.out BK927.out (by decide))); have n9_ := Aside0.mk (hb); have n10_ := Aside0.mk (ho); clear HO_12; clear HO_910003; clear HO_910004; clear BK893; clear BK909; clear HO919; clear HO922; clear HO925; clear BK927; clear HB; clear HO_11; have HO_12 := n0_; have HO_910003 := n1_; have HO_910004 := n2_; have BK893 := n3_; have BK909 := n4_; have HO919 := n5_; have HO922 := n6_; have HO925 := n7_; have BK927 := n8_; have HB := n9_; have HO930 := n10_; clear n0_ n1_ n2_ n3_ n4_ n5_ n6_ n7_ n8_ n9_ n10_; clear ho hb hg hat; obtain ⟨hcz48_0, hcz48_1, hcz48_2, hcz48_3, hcz48_4⟩ := cells5 BK909; obtain ⟨hfz48_0, hfz48_1, hfz48_2, hfz48_3, hfz48_4⟩ := frz5 BK909) | ((with_reducible refine gate_callee (f := 21) rfl ?_); refine goesL_ (some 59) rfl rfl Try.func21 (by kernel_rfl) rfl #[.agg #[.int .i64 t914, .int .i64 t915, .int .i64 t916, .slice Ao37 t917.length co37, .slice Ao39 t920.length co39]] rfl (by (try simp only [List.map_toArray, List.map_cons, List.map_nil]); first | done | rfl | (simp only [List.length_drop, List.length_take]; rfl)) ?_; (with_reducible refine (docket_Check.calls k1 t914 t915 t916 _ _ t917 _ _ t920 t931 _ ?side1 ?side2 ?side3 ?side4 A25.out).mono ?_); (case side1 => repeat (first | exact (Kd.R_reads' HO919.out).2.2 | (with_reducible refine Kd.C_alloc ?_ _) | (with_reducible refine Kd.C_drewN ?_ _) | (with_reducible refine Kd.C_drew ?_))); (case side2 => exact (Kd.R_reads' HO919.out).2.1); (case side3 => repeat (first | exact (Kd.R_reads' HO922.out).2.2 | (with_reducible refine Kd.C_alloc ?_ _) | (with_reducible refine Kd.C_drewN ?_ _) | (with_reducible refine Kd.C_drew ?_))); (case side4 => exact (Kd.R_reads' HO922.out).2.1); rintro e w49 ⟨rfl, hb⟩; refine ⟨_, rfl, ?_⟩; have n0_ := rB HO_12 hb; have n1_ := rB HO_910003 hb; have n2_ := rB HO_910004 hb; have n3_ := rB HO919 hb; have n4_ := rB HO922 hb; have n5_ := rB HO925 hb; have n6_ := rB HO930 hb; have n7_ := bB BK893 hb; have n8_ := bB BK909 hb; have n9_ := bB BK927 hb; have n10_ := Aside0.mk (below_step (pB HB) hb); clear HO_12; clear HO_910003; clear HO_910004; clear HO919; clear HO922; clear HO925; clear HO930; clear BK893; clear BK909; clear BK927; clear HB; have HO_12 := n0_; have HO_910003 := n1_; have HO_910004 := n2_; have HO919 := n3_; have HO922 := n4_; have HO925 := n5_; have HO930 := n6_; have BK893 := n7_; have BK909 := n8_; have BK927 := n9_; have HB := n10_; clear n0_ n1_ n2_ n3_ n4_ n5_ n6_ n7_ n8_ n9_ n10_; (try clear hb); (try clear hb2); (try clear hk); (try clear hi)))
         go_roundg k1
         case measure => have := HK1.out; omega
         case rel => exact ⟨(y928), (wrap64 (x13_1 + 1)), (t914), (t915), (t916), (t917), (t920), (.slice Ao37 t917.length co37), (.slice Ao39 t920.length co39), (by first | rfl | (simp; done) | (simp [*]; done)), H', ⟨by have := HK1.out; omega⟩, ⟨by (with_reducible repeat (first | apply Kd.R_alloc | apply Kd.R_drewN | apply Kd.R_drew)); exact Kd.R_mono HO930.out (fun _ hk => trivial)⟩, ⟨by (with_reducible repeat (first | apply Kd.R_alloc | apply Kd.R_drewN | apply Kd.R_drew)); exact HO_12.out⟩, ⟨by (with_reducible repeat (first | apply Kd.R_alloc | apply Kd.R_drewN | apply Kd.R_drew)); exact Kd.R_mono HO919.out (fun _ hk => trivial)⟩, ⟨by (with_reducible repeat (first | apply Kd.R_alloc | apply Kd.R_drewN | apply Kd.R_drew)); exact Kd.R_mono HO922.out (fun _ hk => trivial)⟩, ⟨by (with_reducible repeat (first|refine bN ?_ _|refine bD ?_|refine bA ?_ _)); exact BK893.out⟩, ⟨by (with_reducible repeat (first|refine bN ?_ _|refine bD ?_|refine bA ?_ _)); exact BK909.out⟩, ⟨pB HB⟩⟩
        ·rw [if_neg c26] at H
         exact absurd H (by simp)
       ·rw [if_neg c24] at H
        exact absurd H (by simp)
      ·rw [if_neg c23] at H
       have c23b0 : (t926 == 0) = false := beq_eq_false_iff_ne.mpr c23
       have c23b1 : (t926 != 0) = true := bne_iff_ne.mpr c23
       replace H := Option.bind_eq_some_iff.mp H
       obtain ⟨t932, A500, H⟩ := H
       replace H : (if t932 = 0 then (insolvencylaw33_DocketOnce.l0 k1 a3 x11_1 t910 (wrap64 (x13_1 + 1)) x910000_1 x910001_1 x910002_1 x910003_1 x910004_1) else (none)) = some r := H
       have A50 := Aside0.mk A500
       clear A500
       by_cases c51 : t932 = 0
       ·rw [if_pos c51] at H
        have c51b0 : (t932 == 0) = true := beq_iff_eq.mpr c51
        have c51b1 : (t932 != 0) = false := bne_eq_false_iff_eq.mpr c51
        clear c51
        have H' := Aside0.mk H
        clear H
        obtain ⟨Ao52, co52, eo52⟩ := Kd.R_slice HO_12.out
        subst eo52
        obtain ⟨Ao53, co53, eo53⟩ := Kd.R_slice HO_910003.out
        subst eo53
        obtain ⟨Ao54, co54, eo54⟩ := Kd.R_slice HO_910004.out
        subst eo54
        try go_wp2
        have n0_ := Aside0.mk (Kd.R_drew HO_11.out)
        have n1_ := Aside0.mk (Kd.R_drew HO_12.out)
        have n2_ := Aside0.mk (Kd.R_drew HO_910003.out)
        have n3_ := Aside0.mk (Kd.R_drew HO_910004.out)
        have n4_ := Aside0.mk (blk_drew BK893.out)
        have n5_ := Aside0.mk (blk_drew BK909.out)
        have n6_ := Aside0.mk (below_drew1 HB.out)
        clear HO_11
        clear HO_12
        clear HO_910003
        clear HO_910004
        clear BK893
        clear BK909
        clear HB
        have HO_11 := n0_
        have HO_12 := n1_
        have HO_910003 := n2_
        have HO_910004 := n3_
        have BK893 := n4_
        have BK909 := n5_
        have HB := n6_
        clear n0_ n1_ n2_ n3_ n4_ n5_ n6_
        have p913 : 0 ≤ (x13_1 : Int) := of_decide_eq_true (by assumption)
        have q913 : x13_1 < (t910.length : Int) := of_decide_eq_true (by assumption)
        obtain ⟨Aq39, cq39, eq39⟩ := Kd.R_slice HO_12.out
        (first | subst eq39 | clear eq39)
        obtain ⟨ad913, e913, hx913_0, hx913_1, hx913_2, hx913_3⟩ := at_T47 (Kd.R_reads' HO_12.out).2.2 x13_1 p913 q913
        cases e913
        replace p913 := eq_true p913
        replace q913 := eq_true q913
        refine start_ (n := 14) (S := fun w' => w'.cell? ⟨gb909, 0, none⟩ = some (.int .i64 x910000_1) ∧ w'.cell? ⟨gb909, 1, none⟩ = some (.int .i64 x910001_1) ∧ w'.cell? ⟨gb909, 2, none⟩ = some (.int .i64 x910002_1) ∧ w'.cell? ⟨gb909, 3, none⟩ = some (.slice Ao53 x910003_1.length co53) ∧ w'.cell? ⟨gb909, 4, none⟩ = some (.slice Ao54 x910004_1.length co54) ∧ w'.cell? (ad913.add ((x13_1).toNat * 4)) = some (.int .i64 ((rd_T47 t910 x13_1).f0)) ∧ w'.cell? ⟨(ad913.add ((x13_1).toNat * 4)).block, (ad913.add ((x13_1).toNat * 4)).off + 1, none⟩ = some (.int .i64 ((rd_T47 t910 x13_1).f1)) ∧ w'.cell? ⟨(ad913.add ((x13_1).toNat * 4)).block, (ad913.add ((x13_1).toNat * 4)).off + 2, none⟩ = some (.int .i64 ((rd_T47 t910 x13_1).f2)) ∧ w'.cell? ⟨(ad913.add ((x13_1).toNat * 4)).block, (ad913.add ((x13_1).toNat * 4)).off + 3, none⟩ = some (.int .i64 ((rd_T47 t910 x13_1).f3))) (ds := []) #[false,false,false,false,false,false,false,false,false,false,false,false,false,false] (by kernel_rfl) rfl rfl ⟨(blk_cell BK909.out 0).trans rfl, (blk_cell BK909.out 1).trans rfl, (blk_cell BK909.out 2).trans rfl, (blk_cell BK909.out 3).trans rfl, (blk_cell BK909.out 4).trans rfl, hx913_0, hx913_1, hx913_2, hx913_3⟩ (fun hHeld => ?_); refine with_tabW insolvencylaw33_DocketOnce.tab9 insolvencylaw33_DocketOnce.bits9 (fun HT_ HW_ => ?_)
        generalize wr.drew = w55 at HO_11 HO_12 HO_910003 HO_910004 BK893 BK909 HB hx913_0 hx913_1 hx913_2 hx913_3 hHeld ⊢
        refine pure_ (i := 1) (N := some 44) (v := ?_) (a' := ?_) #[false,true,false,false,false,false,false,false,false,false,false,false,false,false] rfl rfl (any_of HT_.out (by kernel_rfl)) (fun _ _ _ h => h) (Or.inl ⟨by rfl, ?_⟩) ?_ ?_
        rotate_left
        ·intro w'
         go_simp
         with_reducible rfl
        rotate_left
        ·simp only [Act.put,sT,sZ,sU,i64_w,i32_w]
         rfl
        refine pure_ (i := 2) (N := some 45) (v := ?_) (a' := ?_) #[false,true,true,false,false,false,false,false,false,false,false,false,false,false] rfl rfl (any_of HT_.out (by kernel_rfl)) (fun _ _ _ h => h) (Or.inl ⟨by rfl, ?_⟩) ?_ ?_
        rotate_left
        ·intro w'
         go_simp
         with_reducible rfl
        rotate_left
        ·simp only [Act.put,sT,sZ,sU,i64_w,i32_w]
         rfl
        refine pure_ (i := 3) (N := some 46) (v := ?_) (a' := ?_) #[false,true,true,true,false,false,false,false,false,false,false,false,false,false] rfl rfl (any_of HT_.out (by kernel_rfl)) (fun _ _ _ h => h) (Or.inl ⟨by rfl, ?_⟩) ?_ ?_
        rotate_left
        ·intro w'
         go_simp
         with_reducible rfl
        rotate_left
        ·simp only [Act.put,sT,sZ,sU,i64_w,i32_w]
         rfl
        refine take_ (i := 0) (N := some 43) (v := ?_) (a' := ?_) #[true,true,true,true,false,false,false,false,false,false,false,false,false,false] rfl rfl (take_ofW HT_.out HW_.out (by kernel_rfl)) (fun _ _ _ h => h) (Or.inl ⟨by rfl, ?_⟩) hHeld ?_ ?_
        rotate_left
        ·rintro w' ⟨s0, s1, s2, s3, s4, s5, s6, s7, s8⟩
         go_simp
         with_reducible rfl
        rotate_left
        ·simp only [Act.put,sT,sZ,sU,i64_w,i32_w]
         rfl
        refine take_ (i := 4) (N := some 47) (v := ?_) (a' := ?_) #[true,true,true,true,true,false,false,false,false,false,false,false,false,false] rfl rfl (take_ofW HT_.out HW_.out (by kernel_rfl)) (fun _ _ _ h => h) (Or.inl ⟨by rfl, ?_⟩) hHeld ?_ ?_
        rotate_left
        ·rintro w' ⟨s0, s1, s2, s3, s4, s5, s6, s7, s8⟩
         go_simp
         with_reducible rfl
        rotate_left
        ·simp only [Act.put,sT,sZ,sU,i64_w,i32_w]
         rfl
        refine join_ (σ := Value × Value × Value × Nat) 3 #[true,true,true,true,true,true,true,true,true,true,true,false,false,false] (fun s_ => [(48, .tuple #[.agg #[.int .i64 t914, .int .i64 t915, .int .i64 t916, s_.1, s_.2.1], s_.2.2.1, .int .i64 t926]), (14, .pointer (some ⟨s_.2.2.2, 0, none⟩)), (42, .tuple #[.agg #[.int .i64 t914, .int .i64 t915, .int .i64 t916, s_.1, s_.2.1], s_.2.2.1, .int .i64 t926]), (49, .agg #[.int .i64 t914, .int .i64 t915, .int .i64 t916, s_.1, s_.2.1]), (50, s_.2.2.1), (51, .int .i64 t926)]) (fun s_ w' => (w'.cell? ⟨gb909, 0, none⟩ = some (.int .i64 x910000_1) ∧ w'.cell? ⟨gb909, 1, none⟩ = some (.int .i64 x910001_1) ∧ w'.cell? ⟨gb909, 2, none⟩ = some (.int .i64 x910002_1) ∧ w'.cell? ⟨gb909, 3, none⟩ = some (.slice Ao53 x910003_1.length co53) ∧ w'.cell? ⟨gb909, 4, none⟩ = some (.slice Ao54 x910004_1.length co54) ∧ w'.cell? (ad913.add ((x13_1).toNat * 4)) = some (.int .i64 ((rd_T47 t910 x13_1).f0)) ∧ w'.cell? ⟨(ad913.add ((x13_1).toNat * 4)).block, (ad913.add ((x13_1).toNat * 4)).off + 1, none⟩ = some (.int .i64 ((rd_T47 t910 x13_1).f1)) ∧ w'.cell? ⟨(ad913.add ((x13_1).toNat * 4)).block, (ad913.add ((x13_1).toNat * 4)).off + 2, none⟩ = some (.int .i64 ((rd_T47 t910 x13_1).f2)) ∧ w'.cell? ⟨(ad913.add ((x13_1).toNat * 4)).block, (ad913.add ((x13_1).toNat * 4)).off + 3, none⟩ = some (.int .i64 ((rd_T47 t910 x13_1).f3))) ∧ (Kd.R (Kd.int .i64) 3 w' w.heap.size (fun k_ => some k_ ≠ (.slice Ao53 x910003_1.length co53 : Value).ownBlock) s_.1 t917) ∧ (Kd.R k50 50 w' w.heap.size (fun k_ => some k_ ≠ (.slice Ao54 x910004_1.length co54 : Value).ownBlock) s_.2.1 t920) ∧ (Kd.R k52 52 w' w.heap.size (fun k_ => some k_ ≠ (u11 : Value).ownBlock) s_.2.2.1 t923) ∧ (Kd.R k52 52 w' w.heap.size (fun k_ => some k_ ≠ (s_.2.2.1 : Value).ownBlock) u11 x11_1) ∧ (Kd.R k47 47 w' w.heap.size (fun _ => True) (.slice (some ad913) t910.length co52) t910) ∧ (Kd.R (Kd.int .i64) 3 w' w.heap.size (fun k_ => some k_ ≠ (s_.1 : Value).ownBlock) (.slice Ao53 x910003_1.length co53) x910003_1) ∧ (Kd.R k50 50 w' w.heap.size (fun k_ => some k_ ≠ (s_.2.1 : Value).ownBlock) (.slice Ao54 x910004_1.length co54) x910004_1) ∧ (w'.heap[gb893]? = some (.cells #[.int .u8 a0_0, .int .u8 a0_1] 22 (0, 0))) ∧ (w'.heap[gb909]? = some (.cells #[.int .i64 x910000_1, .int .i64 x910001_1, .int .i64 x910002_1, .slice Ao53 x910003_1.length co53, .slice Ao54 x910004_1.length co54] 30 (0, 0))) ∧ (w'.heap[s_.2.2.2]? = some (.cells #[.int .i64 0, .int .i64 0, .int .i64 0, .slice none 0 0, .slice none 0 0] 30 (0, 0))) ∧ (w.heap.size ≤ s_.2.2.2) ∧ (w.heap.size ≤ s_.2.2.2) ∧ (gb893 ≠ s_.2.2.2) ∧ (s_.2.2.2 ≠ gb893) ∧ (gb909 ≠ s_.2.2.2) ∧ (s_.2.2.2 ≠ gb909) ∧ (Below w.heap.size w w')) ?_ ?_
        rotate_left
        ·intro hCont
         refine two_ (i := 5) (j := 10) (Ni := some 48) (Nj := some 14) #[true,true,true,true,true,true,false,false,false,false,false,false,false,false] #[true,true,true,true,true,false,false,false,false,false,true,false,false,false] rfl rfl rfl rfl (two_of HT_.out (by kernel_rfl)) (by decide) (by decide) (fun K hK => ?_) (fun K hK => ?_)
         ·skip
          refine goes_ Try.func20 (by kernel_rfl) rfl #[.agg #[.int .i64 x910000_1, .int .i64 x910001_1, .int .i64 x910002_1, .slice Ao53 x910003_1.length co53, .slice Ao54 x910004_1.length co54], .agg #[.int .i64 ((rd_T47 t910 x13_1).f0), .int .i64 ((rd_T47 t910 x13_1).f1), .int .i64 ((rd_T47 t910 x13_1).f2), .int .i64 ((rd_T47 t910 x13_1).f3)]] (by rfl) rfl rfl (by (try simp only [List.map_toArray, List.map_cons, List.map_nil]); first | done | rfl | (simp only [List.length_drop, List.length_take]; rfl)) ?_
          with_reducible refine (docket_File.calls k1 x910000_1 x910001_1 x910002_1 _ _ x910003_1 _ _ x910004_1 ((rd_T47 t910 x13_1).f0) ((rd_T47 t910 x13_1).f1) ((rd_T47 t910 x13_1).f2) ((rd_T47 t910 x13_1).f3) t914 t915 t916 t917 t920 t923 t926 _ ?side1 ?side2 ?side3 ?side4 A22.out).mono ?_
          (case side1 => repeat (first | exact (Kd.R_reads' HO_910003.out).2.2 | (with_reducible refine Kd.C_alloc ?_ _) | (with_reducible refine Kd.C_drewN ?_ _) | (with_reducible refine Kd.C_drew ?_)))
          (case side2 => exact (Kd.R_reads' HO_910003.out).2.1)
          (case side3 => repeat (first | exact (Kd.R_reads' HO_910004.out).2.2 | (with_reducible refine Kd.C_alloc ?_ _) | (with_reducible refine Kd.C_drewN ?_ _) | (with_reducible refine Kd.C_drew ?_)))
          (case side4 => exact (Kd.R_reads' HO_910004.out).2.1)
          rintro e w56 ⟨v918, v921, v924, rfl, ho0, ho1, ho2, hb⟩
          have HS5_ := (hb.cell (World.block_lt_of_cell? _ _ (hHeld.2.2.2.2.2.1))).trans (hHeld.2.2.2.2.2.1)
          have HS6_ := (hb.cell (World.block_lt_of_cell? _ _ (hHeld.2.2.2.2.2.2.1))).trans (hHeld.2.2.2.2.2.2.1)
          have HS7_ := (hb.cell (World.block_lt_of_cell? _ _ (hHeld.2.2.2.2.2.2.2.1))).trans (hHeld.2.2.2.2.2.2.2.1)
          have HS8_ := (hb.cell (World.block_lt_of_cell? _ _ (hHeld.2.2.2.2.2.2.2.2))).trans (hHeld.2.2.2.2.2.2.2.2)
          refine ⟨_, rfl, ?_⟩
          have n0_ := Aside0.mk (Kd.R_elder' (by (with_reducible repeat (first | apply Kd.R_alloc | apply Kd.R_drewN | apply Kd.R_drew)); exact HO_11.out) (Kd.R_base ho2) hb)
          have n1_ := rB HO_12 hb
          have n2_ := Aside0.mk (Kd.R_elder' (by (with_reducible repeat (first | apply Kd.R_alloc | apply Kd.R_drewN | apply Kd.R_drew)); exact HO_910003.out) (Kd.R_base ho0) hb)
          have n3_ := Aside0.mk (Kd.R_elder' (by (with_reducible repeat (first | apply Kd.R_alloc | apply Kd.R_drewN | apply Kd.R_drew)); exact HO_910004.out) (Kd.R_base ho1) hb)
          have n4_ := Aside0.mk (Kd.R_lower (Kd.R_new' ho0 (Kd.R_lt (by (with_reducible repeat (first | apply Kd.R_alloc | apply Kd.R_drewN | apply Kd.R_drew)); exact HO_910003.out))) (below_size (pB HB)))
          have n5_ := Aside0.mk (Kd.R_lower (Kd.R_new' ho1 (Kd.R_lt (by (with_reducible repeat (first | apply Kd.R_alloc | apply Kd.R_drewN | apply Kd.R_drew)); exact HO_910004.out))) (below_size (pB HB)))
          have n6_ := Aside0.mk (Kd.R_lower (Kd.R_new' ho2 (Kd.R_lt (by (with_reducible repeat (first | apply Kd.R_alloc | apply Kd.R_drewN | apply Kd.R_drew)); exact HO_11.out))) (below_size (pB HB)))
          have n7_ := bB BK893 hb
          have n8_ := bB BK909 hb
          have n9_ := Aside0.mk (below_step (pB HB) hb)
          clear HO_11
          clear HO_12
          clear HO_910003
          clear HO_910004
          clear BK893
          clear BK909
          clear HB
          have HO_11 := n0_
          have HO_12 := n1_
          have HO_910003 := n2_
          have HO_910004 := n3_
          have HO919 := n4_
          have HO922 := n5_
          have HO925 := n6_
          have BK893 := n7_
          have BK909 := n8_
          have HB := n9_
          clear n0_ n1_ n2_ n3_ n4_ n5_ n6_ n7_ n8_ n9_
          (try clear hb)
          (try clear hb2)
          (try clear hk)
          (try clear hi)
          (try clear ho0)
          (try clear ho1)
          (try clear ho2)
          refine hK.out _ _ ⟨(blk_cell BK909.out 0).trans rfl, (blk_cell BK909.out 1).trans rfl, (blk_cell BK909.out 2).trans rfl, (blk_cell BK909.out 3).trans rfl, (blk_cell BK909.out 4).trans rfl, HS5_, HS6_, HS7_, HS8_⟩ (fun hHeld => ?_)
          clear hK K
          refine norm_ (a' := ?_) ?_ ?_
          rotate_left
          ·show Act.put _ (some 48) _ = _
           simp only [Act.put,sT,sZ,sU,i64_w,i32_w]
           rfl
          refine pure_ (i := 6) (N := some 42) (v := ?_) (a' := ?_) #[true,true,true,true,true,true,true,false,false,false,false,false,false,false] rfl rfl (any_of HT_.out (by kernel_rfl)) (fun _ _ _ h => h) (Or.inl ⟨by rfl, ?_⟩) ?_ ?_
          rotate_left
          ·intro w'
           go_simp
           with_reducible rfl
          rotate_left
          ·simp only [Act.put,sT,sZ,sU,i64_w,i32_w]
           rfl
          refine pure_ (i := 7) (N := some 49) (v := ?_) (a' := ?_) #[true,true,true,true,true,true,true,true,false,false,false,false,false,false] rfl rfl (any_of HT_.out (by kernel_rfl)) (fun _ _ _ h => h) (Or.inl ⟨by rfl, ?_⟩) ?_ ?_
          rotate_left
          ·intro w'
           go_simp
           with_reducible rfl
          rotate_left
          ·simp only [Act.put,sT,sZ,sU,i64_w,i32_w]
           rfl
          refine pure_ (i := 8) (N := some 50) (v := ?_) (a' := ?_) #[true,true,true,true,true,true,true,true,true,false,false,false,false,false] rfl rfl (any_of HT_.out (by kernel_rfl)) (fun _ _ _ h => h) (Or.inl ⟨by rfl, ?_⟩) ?_ ?_
          rotate_left
          ·intro w'
           go_simp
           with_reducible rfl
          rotate_left
          ·simp only [Act.put,sT,sZ,sU,i64_w,i32_w]
           rfl
          refine pure_ (i := 9) (N := some 51) (v := ?_) (a' := ?_) #[true,true,true,true,true,true,true,true,true,true,false,false,false,false] rfl rfl (any_of HT_.out (by kernel_rfl)) (fun _ _ _ h => h) (Or.inl ⟨by rfl, ?_⟩) ?_ ?_
          rotate_left
          ·intro w'
           go_simp
           with_reducible rfl
          rotate_left
          ·simp only [Act.put,sT,sZ,sU,i64_w,i32_w]
           rfl
          refine one_ (i := 10) (N := some 14) #[true,true,true,true,true,true,true,true,true,true,true,false,false,false] rfl rfl (one_of HT_.out (by kernel_rfl)) (by decide) (fun K hK => ?_)
          refine box_step ?hg (N := 14) ?hd (cs := #[.int .i64 0, .int .i64 0, .int .i64 0, .slice none 0 0, .slice none 0 0]) (t := 30) ?hr ?_; (case hd => rfl); (case hg => rfl); (case hr => first | (go_simp; done) | (go_simp; rfl))
          intro gb927 hg w57 hbox hb
          have HS5_ := (hb.cell (World.block_lt_of_cell? _ _ (hHeld.2.2.2.2.2.1))).trans (hHeld.2.2.2.2.2.1)
          have HS6_ := (hb.cell (World.block_lt_of_cell? _ _ (hHeld.2.2.2.2.2.2.1))).trans (hHeld.2.2.2.2.2.2.1)
          have HS7_ := (hb.cell (World.block_lt_of_cell? _ _ (hHeld.2.2.2.2.2.2.2.1))).trans (hHeld.2.2.2.2.2.2.2.1)
          have HS8_ := (hb.cell (World.block_lt_of_cell? _ _ (hHeld.2.2.2.2.2.2.2.2))).trans (hHeld.2.2.2.2.2.2.2.2)
          have n0_ := rB HO_11 hb
          have n1_ := rB HO_12 hb
          have n2_ := rB HO_910003 hb
          have n3_ := rB HO_910004 hb
          have n4_ := rB HO919 hb
          have n5_ := rB HO922 hb
          have n6_ := rB HO925 hb
          have n7_ := bB BK893 hb
          have n8_ := bB BK909 hb
          have n9_ := Aside0.mk (below_step (pB HB) hb)
          have n10_ := Aside0.mk (hbox)
          have n11_ := Aside0.mk ((by rw [hg]; exact (below_size (pB HB)) : w.heap.size ≤ gb927))
          have n12_ := Aside0.mk ((by rw [hg]; exact (below_size (pB HB)) : w.heap.size ≤ gb927))
          have n13_ := Aside0.mk ((by rw [hg]; exact Nat.ne_of_lt (blk_lt (g := gb893) (o := .cells #[.int .u8 a0_0, .int .u8 a0_1] 22 (0, 0)) (by (with_reducible repeat (first|refine bN ?_ _|refine bD ?_|refine bA ?_ _)); exact BK893.out)) : gb893 ≠ gb927))
          have n14_ := Aside0.mk ((by rw [hg]; exact Nat.ne_of_gt (blk_lt (g := gb893) (o := .cells #[.int .u8 a0_0, .int .u8 a0_1] 22 (0, 0)) (by (with_reducible repeat (first|refine bN ?_ _|refine bD ?_|refine bA ?_ _)); exact BK893.out)) : gb927 ≠ gb893))
          have n15_ := Aside0.mk ((by rw [hg]; exact Nat.ne_of_lt (blk_lt (g := gb909) (o := .cells #[.int .i64 x910000_1, .int .i64 x910001_1, .int .i64 x910002_1, .slice Ao53 x910003_1.length co53, .slice Ao54 x910004_1.length co54] 30 (0, 0)) (by (with_reducible repeat (first|refine bN ?_ _|refine bD ?_|refine bA ?_ _)); exact BK909.out)) : gb909 ≠ gb927))
          have n16_ := Aside0.mk ((by rw [hg]; exact Nat.ne_of_gt (blk_lt (g := gb909) (o := .cells #[.int .i64 x910000_1, .int .i64 x910001_1, .int .i64 x910002_1, .slice Ao53 x910003_1.length co53, .slice Ao54 x910004_1.length co54] 30 (0, 0)) (by (with_reducible repeat (first|refine bN ?_ _|refine bD ?_|refine bA ?_ _)); exact BK909.out)) : gb927 ≠ gb909))
          clear HO_11
          clear HO_12
          clear HO_910003
          clear HO_910004
          clear HO919
          clear HO922
          clear HO925
          clear BK893
          clear BK909
          clear HB
          have HO_11 := n0_
          have HO_12 := n1_
          have HO_910003 := n2_
          have HO_910004 := n3_
          have HO919 := n4_
          have HO922 := n5_
          have HO925 := n6_
          have BK893 := n7_
          have BK909 := n8_
          have HB := n9_
          have BK927 := n10_
          have GW927 := n11_
          have GE927 := n12_
          have NB893_927 := n13_
          have NB927_893 := n14_
          have NB909_927 := n15_
          have NB927_909 := n16_
          clear n0_ n1_ n2_ n3_ n4_ n5_ n6_ n7_ n8_ n9_ n10_ n11_ n12_ n13_ n14_ n15_ n16_
          clear hb hbox hg
          refine hK.out _ _ ⟨(blk_cell BK909.out 0).trans rfl, (blk_cell BK909.out 1).trans rfl, (blk_cell BK909.out 2).trans rfl, (blk_cell BK909.out 3).trans rfl, (blk_cell BK909.out 4).trans rfl, HS5_, HS6_, HS7_, HS8_⟩ (fun hHeld => ?_)
          clear hK K
          refine norm_ (a' := ?_) ?_ ?_
          rotate_left
          ·show Act.put _ (some 14) _ = _
           simp only [Act.put,sT,sZ,sU,i64_w,i32_w]
           rfl
          exact norm_ (by simp only [putAll, Act.put, List.setIfInBounds_toArray, List.set_cons_zero, List.set_cons_succ]) (hCont (v918, v921, v924, gb927) _ ⟨hHeld, (by (with_reducible repeat (first | apply Kd.R_alloc | apply Kd.R_drewN | apply Kd.R_drew)); exact Kd.R_mono HO919.out (fun _ hk => hk.2)), (by (with_reducible repeat (first | apply Kd.R_alloc | apply Kd.R_drewN | apply Kd.R_drew)); exact Kd.R_mono HO922.out (fun _ hk => hk.2)), (by (with_reducible repeat (first | apply Kd.R_alloc | apply Kd.R_drewN | apply Kd.R_drew)); exact Kd.R_mono HO925.out (fun _ hk => hk.2)), (by (with_reducible repeat (first | apply Kd.R_alloc | apply Kd.R_drewN | apply Kd.R_drew)); exact Kd.R_mono HO_11.out (fun _ hk => hk.2)), (by (with_reducible repeat (first | apply Kd.R_alloc | apply Kd.R_drewN | apply Kd.R_drew)); exact HO_12.out), (by (with_reducible repeat (first | apply Kd.R_alloc | apply Kd.R_drewN | apply Kd.R_drew)); exact Kd.R_mono HO_910003.out (fun _ hk => hk.2)), (by (with_reducible repeat (first | apply Kd.R_alloc | apply Kd.R_drewN | apply Kd.R_drew)); exact Kd.R_mono HO_910004.out (fun _ hk => hk.2)), (by (with_reducible repeat (first|refine bN ?_ _|refine bD ?_|refine bA ?_ _)); exact BK893.out), (by (with_reducible repeat (first|refine bN ?_ _|refine bD ?_|refine bA ?_ _)); exact BK909.out), (by (with_reducible repeat (first|refine bN ?_ _|refine bD ?_|refine bA ?_ _)); exact BK927.out), GW927.out, GE927.out, NB893_927.out, NB927_893.out, NB909_927.out, NB927_909.out, (pB HB)⟩)
         ·skip
          refine box_step ?hg (N := 14) ?hd (cs := #[.int .i64 0, .int .i64 0, .int .i64 0, .slice none 0 0, .slice none 0 0]) (t := 30) ?hr ?_; (case hd => rfl); (case hg => rfl); (case hr => first | (go_simp; done) | (go_simp; rfl))
          intro gb927 hg w56 hbox hb
          have HS5_ := (hb.cell (World.block_lt_of_cell? _ _ (hHeld.2.2.2.2.2.1))).trans (hHeld.2.2.2.2.2.1)
          have HS6_ := (hb.cell (World.block_lt_of_cell? _ _ (hHeld.2.2.2.2.2.2.1))).trans (hHeld.2.2.2.2.2.2.1)
          have HS7_ := (hb.cell (World.block_lt_of_cell? _ _ (hHeld.2.2.2.2.2.2.2.1))).trans (hHeld.2.2.2.2.2.2.2.1)
          have HS8_ := (hb.cell (World.block_lt_of_cell? _ _ (hHeld.2.2.2.2.2.2.2.2))).trans (hHeld.2.2.2.2.2.2.2.2)
          have n0_ := rB HO_11 hb
          have n1_ := rB HO_12 hb
          have n2_ := rB HO_910003 hb
          have n3_ := rB HO_910004 hb
          have n4_ := bB BK893 hb
          have n5_ := bB BK909 hb
          have n6_ := Aside0.mk (below_step (pB HB) hb)
          have n7_ := Aside0.mk (hbox)
          have n8_ := Aside0.mk ((by rw [hg]; exact (below_size (pB HB)) : w.heap.size ≤ gb927))
          have n9_ := Aside0.mk ((by rw [hg]; exact (below_size (pB HB)) : w.heap.size ≤ gb927))
          have n10_ := Aside0.mk ((by rw [hg]; exact Nat.ne_of_lt (blk_lt (g := gb893) (o := .cells #[.int .u8 a0_0, .int .u8 a0_1] 22 (0, 0)) (by (with_reducible repeat (first|refine bN ?_ _|refine bD ?_|refine bA ?_ _)); exact BK893.out)) : gb893 ≠ gb927))
          have n11_ := Aside0.mk ((by rw [hg]; exact Nat.ne_of_gt (blk_lt (g := gb893) (o := .cells #[.int .u8 a0_0, .int .u8 a0_1] 22 (0, 0)) (by (with_reducible repeat (first|refine bN ?_ _|refine bD ?_|refine bA ?_ _)); exact BK893.out)) : gb927 ≠ gb893))
          have n12_ := Aside0.mk ((by rw [hg]; exact Nat.ne_of_lt (blk_lt (g := gb909) (o := .cells #[.int .i64 x910000_1, .int .i64 x910001_1, .int .i64 x910002_1, .slice Ao53 x910003_1.length co53, .slice Ao54 x910004_1.length co54] 30 (0, 0)) (by (with_reducible repeat (first|refine bN ?_ _|refine bD ?_|refine bA ?_ _)); exact BK909.out)) : gb909 ≠ gb927))
          have n13_ := Aside0.mk ((by rw [hg]; exact Nat.ne_of_gt (blk_lt (g := gb909) (o := .cells #[.int .i64 x910000_1, .int .i64 x910001_1, .int .i64 x910002_1, .slice Ao53 x910003_1.length co53, .slice Ao54 x910004_1.length co54] 30 (0, 0)) (by (with_reducible repeat (first|refine bN ?_ _|refine bD ?_|refine bA ?_ _)); exact BK909.out)) : gb927 ≠ gb909))
          clear HO_11
          clear HO_12
          clear HO_910003
          clear HO_910004
          clear BK893
          clear BK909
          clear HB
          have HO_11 := n0_
          have HO_12 := n1_
          have HO_910003 := n2_
          have HO_910004 := n3_
          have BK893 := n4_
          have BK909 := n5_
          have HB := n6_
          have BK927 := n7_
          have GW927 := n8_
          have GE927 := n9_
          have NB893_927 := n10_
          have NB927_893 := n11_
          have NB909_927 := n12_
          have NB927_909 := n13_
          clear n0_ n1_ n2_ n3_ n4_ n5_ n6_ n7_ n8_ n9_ n10_ n11_ n12_ n13_
          clear hb hbox hg
          refine hK.out _ _ ⟨(blk_cell BK909.out 0).trans rfl, (blk_cell BK909.out 1).trans rfl, (blk_cell BK909.out 2).trans rfl, (blk_cell BK909.out 3).trans rfl, (blk_cell BK909.out 4).trans rfl, HS5_, HS6_, HS7_, HS8_⟩ (fun hHeld => ?_)
          clear hK K
          refine norm_ (a' := ?_) ?_ ?_
          rotate_left
          ·show Act.put _ (some 14) _ = _
           simp only [Act.put,sT,sZ,sU,i64_w,i32_w]
           rfl
          refine one_ (i := 5) (N := some 48) #[true,true,true,true,true,true,false,false,false,false,true,false,false,false] rfl rfl (one_of HT_.out (by kernel_rfl)) (by decide) (fun K hK => ?_)
          refine goes_ Try.func20 (by kernel_rfl) rfl #[.agg #[.int .i64 x910000_1, .int .i64 x910001_1, .int .i64 x910002_1, .slice Ao53 x910003_1.length co53, .slice Ao54 x910004_1.length co54], .agg #[.int .i64 ((rd_T47 t910 x13_1).f0), .int .i64 ((rd_T47 t910 x13_1).f1), .int .i64 ((rd_T47 t910 x13_1).f2), .int .i64 ((rd_T47 t910 x13_1).f3)]] (by rfl) rfl rfl (by (try simp only [List.map_toArray, List.map_cons, List.map_nil]); first | done | rfl | (simp only [List.length_drop, List.length_take]; rfl)) ?_
          with_reducible refine (docket_File.calls k1 x910000_1 x910001_1 x910002_1 _ _ x910003_1 _ _ x910004_1 ((rd_T47 t910 x13_1).f0) ((rd_T47 t910 x13_1).f1) ((rd_T47 t910 x13_1).f2) ((rd_T47 t910 x13_1).f3) t914 t915 t916 t917 t920 t923 t926 _ ?side1 ?side2 ?side3 ?side4 A22.out).mono ?_
          (case side1 => repeat (first | exact (Kd.R_reads' HO_910003.out).2.2 | (with_reducible refine Kd.C_alloc ?_ _) | (with_reducible refine Kd.C_drewN ?_ _) | (with_reducible refine Kd.C_drew ?_)))
          (case side2 => exact (Kd.R_reads' HO_910003.out).2.1)
          (case side3 => repeat (first | exact (Kd.R_reads' HO_910004.out).2.2 | (with_reducible refine Kd.C_alloc ?_ _) | (with_reducible refine Kd.C_drewN ?_ _) | (with_reducible refine Kd.C_drew ?_)))
          (case side4 => exact (Kd.R_reads' HO_910004.out).2.1)
          rintro e w57 ⟨v918, v921, v924, rfl, ho0, ho1, ho2, hb⟩
          have HS5_ := (hb.cell (World.block_lt_of_cell? _ _ (hHeld.2.2.2.2.2.1))).trans (hHeld.2.2.2.2.2.1)
          have HS6_ := (hb.cell (World.block_lt_of_cell? _ _ (hHeld.2.2.2.2.2.2.1))).trans (hHeld.2.2.2.2.2.2.1)
          have HS7_ := (hb.cell (World.block_lt_of_cell? _ _ (hHeld.2.2.2.2.2.2.2.1))).trans (hHeld.2.2.2.2.2.2.2.1)
          have HS8_ := (hb.cell (World.block_lt_of_cell? _ _ (hHeld.2.2.2.2.2.2.2.2))).trans (hHeld.2.2.2.2.2.2.2.2)
          refine ⟨_, rfl, ?_⟩
          have n0_ := Aside0.mk (Kd.R_elder' (by (with_reducible repeat (first | apply Kd.R_alloc | apply Kd.R_drewN | apply Kd.R_drew)); exact HO_11.out) (Kd.R_base ho2) hb)
          have n1_ := rB HO_12 hb
          have n2_ := Aside0.mk (Kd.R_elder' (by (with_reducible repeat (first | apply Kd.R_alloc | apply Kd.R_drewN | apply Kd.R_drew)); exact HO_910003.out) (Kd.R_base ho0) hb)
          have n3_ := Aside0.mk (Kd.R_elder' (by (with_reducible repeat (first | apply Kd.R_alloc | apply Kd.R_drewN | apply Kd.R_drew)); exact HO_910004.out) (Kd.R_base ho1) hb)
          have n4_ := Aside0.mk (Kd.R_lower (Kd.R_new' ho0 (Kd.R_lt (by (with_reducible repeat (first | apply Kd.R_alloc | apply Kd.R_drewN | apply Kd.R_drew)); exact HO_910003.out))) (below_size (pB HB)))
          have n5_ := Aside0.mk (Kd.R_lower (Kd.R_new' ho1 (Kd.R_lt (by (with_reducible repeat (first | apply Kd.R_alloc | apply Kd.R_drewN | apply Kd.R_drew)); exact HO_910004.out))) (below_size (pB HB)))
          have n6_ := Aside0.mk (Kd.R_lower (Kd.R_new' ho2 (Kd.R_lt (by (with_reducible repeat (first | apply Kd.R_alloc | apply Kd.R_drewN | apply Kd.R_drew)); exact HO_11.out))) (below_size (pB HB)))
          have n7_ := bB BK893 hb
          have n8_ := bB BK909 hb
          have n9_ := bB BK927 hb
          have n10_ := Aside0.mk (below_step (pB HB) hb)
          clear HO_11
          clear HO_12
          clear HO_910003
          clear HO_910004
          clear BK893
          clear BK909
          clear BK927
          clear HB
          have HO_11 := n0_
          have HO_12 := n1_
          have HO_910003 := n2_
          have HO_910004 := n3_
          have HO919 := n4_
          have HO922 := n5_
          have HO925 := n6_
          have BK893 := n7_
          have BK909 := n8_
          have BK927 := n9_
          have HB := n10_
          clear n0_ n1_ n2_ n3_ n4_ n5_ n6_ n7_ n8_ n9_ n10_
          (try clear hb)
          (try clear hb2)
          (try clear hk)
          (try clear hi)
          (try clear ho0)
          (try clear ho1)
          (try clear ho2)
          refine hK.out _ _ ⟨(blk_cell BK909.out 0).trans rfl, (blk_cell BK909.out 1).trans rfl, (blk_cell BK909.out 2).trans rfl, (blk_cell BK909.out 3).trans rfl, (blk_cell BK909.out 4).trans rfl, HS5_, HS6_, HS7_, HS8_⟩ (fun hHeld => ?_)
          clear hK K
          refine norm_ (a' := ?_) ?_ ?_
          rotate_left
          ·show Act.put _ (some 48) _ = _
           simp only [Act.put,sT,sZ,sU,i64_w,i32_w]
           rfl
          refine pure_ (i := 6) (N := some 42) (v := ?_) (a' := ?_) #[true,true,true,true,true,true,true,false,false,false,true,false,false,false] rfl rfl (any_of HT_.out (by kernel_rfl)) (fun _ _ _ h => h) (Or.inl ⟨by rfl, ?_⟩) ?_ ?_
          rotate_left
          ·intro w'
           go_simp
           with_reducible rfl
          rotate_left
          ·simp only [Act.put,sT,sZ,sU,i64_w,i32_w]
           rfl
          refine pure_ (i := 7) (N := some 49) (v := ?_) (a' := ?_) #[true,true,true,true,true,true,true,true,false,false,true,false,false,false] rfl rfl (any_of HT_.out (by kernel_rfl)) (fun _ _ _ h => h) (Or.inl ⟨by rfl, ?_⟩) ?_ ?_
          rotate_left
          ·intro w'
           go_simp
           with_reducible rfl
          rotate_left
          ·simp only [Act.put,sT,sZ,sU,i64_w,i32_w]
           rfl
          refine pure_ (i := 8) (N := some 50) (v := ?_) (a' := ?_) #[true,true,true,true,true,true,true,true,true,false,true,false,false,false] rfl rfl (any_of HT_.out (by kernel_rfl)) (fun _ _ _ h => h) (Or.inl ⟨by rfl, ?_⟩) ?_ ?_
          rotate_left
          ·intro w'
           go_simp
           with_reducible rfl
          rotate_left
          ·simp only [Act.put,sT,sZ,sU,i64_w,i32_w]
           rfl
          refine pure_ (i := 9) (N := some 51) (v := ?_) (a' := ?_) #[true,true,true,true,true,true,true,true,true,true,true,false,false,false] rfl rfl (any_of HT_.out (by kernel_rfl)) (fun _ _ _ h => h) (Or.inl ⟨by rfl, ?_⟩) ?_ ?_
          rotate_left
          ·intro w'
           go_simp
           with_reducible rfl
          rotate_left
          ·simp only [Act.put,sT,sZ,sU,i64_w,i32_w]
           rfl
          exact norm_ (by simp only [putAll, Act.put, List.setIfInBounds_toArray, List.set_cons_zero, List.set_cons_succ]) (hCont (v918, v921, v924, gb927) _ ⟨hHeld, (by (with_reducible repeat (first | apply Kd.R_alloc | apply Kd.R_drewN | apply Kd.R_drew)); exact Kd.R_mono HO919.out (fun _ hk => hk.2)), (by (with_reducible repeat (first | apply Kd.R_alloc | apply Kd.R_drewN | apply Kd.R_drew)); exact Kd.R_mono HO922.out (fun _ hk => hk.2)), (by (with_reducible repeat (first | apply Kd.R_alloc | apply Kd.R_drewN | apply Kd.R_drew)); exact Kd.R_mono HO925.out (fun _ hk => hk.2)), (by (with_reducible repeat (first | apply Kd.R_alloc | apply Kd.R_drewN | apply Kd.R_drew)); exact Kd.R_mono HO_11.out (fun _ hk => hk.2)), (by (with_reducible repeat (first | apply Kd.R_alloc | apply Kd.R_drewN | apply Kd.R_drew)); exact HO_12.out), (by (with_reducible repeat (first | apply Kd.R_alloc | apply Kd.R_drewN | apply Kd.R_drew)); exact Kd.R_mono HO_910003.out (fun _ hk => hk.2)), (by (with_reducible repeat (first | apply Kd.R_alloc | apply Kd.R_drewN | apply Kd.R_drew)); exact Kd.R_mono HO_910004.out (fun _ hk => hk.2)), (by (with_reducible repeat (first|refine bN ?_ _|refine bD ?_|refine bA ?_ _)); exact BK893.out), (by (with_reducible repeat (first|refine bN ?_ _|refine bD ?_|refine bA ?_ _)); exact BK909.out), (by (with_reducible repeat (first|refine bN ?_ _|refine bD ?_|refine bA ?_ _)); exact BK927.out), GW927.out, GE927.out, NB893_927.out, NB927_893.out, NB909_927.out, NB927_909.out, (pB HB)⟩)
        rintro ⟨v918, v921, v924, gb927⟩ w58 ⟨hS_, h0_, h1_, h2_, h3_, h4_, h5_, h6_, h7_, h8_, h9_, h10_, h11_, h12_, h13_, h14_, h15_, h16_⟩
        have n0_ : Aside0 (Kd.R (Kd.int .i64) 3 w58 w.heap.size (fun k_ => some k_ ≠ (.slice Ao53 x910003_1.length co53 : Value).ownBlock) v918 t917) := ⟨h0_⟩
        have n1_ : Aside0 (Kd.R k50 50 w58 w.heap.size (fun k_ => some k_ ≠ (.slice Ao54 x910004_1.length co54 : Value).ownBlock) v921 t920) := ⟨h1_⟩
        have n2_ : Aside0 (Kd.R k52 52 w58 w.heap.size (fun k_ => some k_ ≠ (u11 : Value).ownBlock) v924 t923) := ⟨h2_⟩
        have n3_ : Aside0 (Kd.R k52 52 w58 w.heap.size (fun k_ => some k_ ≠ (v924 : Value).ownBlock) u11 x11_1) := ⟨h3_⟩
        have n4_ : Aside0 (Kd.R k47 47 w58 w.heap.size (fun _ => True) (.slice (some ad913) t910.length co52) t910) := ⟨h4_⟩
        have n5_ : Aside0 (Kd.R (Kd.int .i64) 3 w58 w.heap.size (fun k_ => some k_ ≠ (v918 : Value).ownBlock) (.slice Ao53 x910003_1.length co53) x910003_1) := ⟨h5_⟩
        have n6_ : Aside0 (Kd.R k50 50 w58 w.heap.size (fun k_ => some k_ ≠ (v921 : Value).ownBlock) (.slice Ao54 x910004_1.length co54) x910004_1) := ⟨h6_⟩
        have n7_ : Aside0 (w58.heap[gb893]? = some (.cells #[.int .u8 a0_0, .int .u8 a0_1] 22 (0, 0))) := ⟨h7_⟩
        have n8_ : Aside0 (w58.heap[gb909]? = some (.cells #[.int .i64 x910000_1, .int .i64 x910001_1, .int .i64 x910002_1, .slice Ao53 x910003_1.length co53, .slice Ao54 x910004_1.length co54] 30 (0, 0))) := ⟨h8_⟩
        have n9_ : Aside0 (w58.heap[gb927]? = some (.cells #[.int .i64 0, .int .i64 0, .int .i64 0, .slice none 0 0, .slice none 0 0] 30 (0, 0))) := ⟨h9_⟩
        have n10_ : Aside0 (w.heap.size ≤ gb927) := ⟨h10_⟩
        have n11_ : Aside0 (w.heap.size ≤ gb927) := ⟨h11_⟩
        have n12_ : Aside0 (gb893 ≠ gb927) := ⟨h12_⟩
        have n13_ : Aside0 (gb927 ≠ gb893) := ⟨h13_⟩
        have n14_ : Aside0 (gb909 ≠ gb927) := ⟨h14_⟩
        have n15_ : Aside0 (gb927 ≠ gb909) := ⟨h15_⟩
        have n16_ : Aside0 (Below w.heap.size w w58) := ⟨h16_⟩
        clear HO_11
        clear HO_12
        clear HO_910003
        clear HO_910004
        clear BK893
        clear BK909
        clear HB
        clear h0_ h1_ h2_ h3_ h4_ h5_ h6_ h7_ h8_ h9_ h10_ h11_ h12_ h13_ h14_ h15_ h16_
        have HO919 := n0_
        have HO922 := n1_
        have HO925 := n2_
        have HO_11 := n3_
        have HO_12 := n4_
        have HO_910003 := n5_
        have HO_910004 := n6_
        have BK893 := n7_
        have BK909 := n8_
        have BK927 := n9_
        have GW927 := n10_
        have GE927 := n11_
        have NB893_927 := n12_
        have NB927_893 := n13_
        have NB909_927 := n14_
        have NB927_909 := n15_
        have HB := n16_
        clear n0_ n1_ n2_ n3_ n4_ n5_ n6_ n7_ n8_ n9_ n10_ n11_ n12_ n13_ n14_ n15_ n16_
        have hHeld : w58.cell? ⟨gb909, 0, none⟩ = some (.int .i64 x910000_1) ∧ w58.cell? ⟨gb909, 1, none⟩ = some (.int .i64 x910001_1) ∧ w58.cell? ⟨gb909, 2, none⟩ = some (.int .i64 x910002_1) ∧ w58.cell? ⟨gb909, 3, none⟩ = some (.slice Ao53 x910003_1.length co53) ∧ w58.cell? ⟨gb909, 4, none⟩ = some (.slice Ao54 x910004_1.length co54) ∧ w58.cell? (ad913.add ((x13_1).toNat * 4)) = some (.int .i64 ((rd_T47 t910 x13_1).f0)) ∧ w58.cell? ⟨(ad913.add ((x13_1).toNat * 4)).block, (ad913.add ((x13_1).toNat * 4)).off + 1, none⟩ = some (.int .i64 ((rd_T47 t910 x13_1).f1)) ∧ w58.cell? ⟨(ad913.add ((x13_1).toNat * 4)).block, (ad913.add ((x13_1).toNat * 4)).off + 2, none⟩ = some (.int .i64 ((rd_T47 t910 x13_1).f2)) ∧ w58.cell? ⟨(ad913.add ((x13_1).toNat * 4)).block, (ad913.add ((x13_1).toNat * 4)).off + 3, none⟩ = some (.int .i64 ((rd_T47 t910 x13_1).f3)) := hS_
        obtain ⟨Ao62, co62, eo62⟩ := Kd.R_slice HO919.out
        (first | subst eo62 | (injection eo62 with f1_ f2_ f3_; have f4_ := f1_.symm; have f5_ := f3_.symm; clear f1_ f2_ f3_; subst f4_; subst f5_))
        obtain ⟨Ao64, co64, eo64⟩ := Kd.R_slice HO922.out
        (first | subst eo64 | (injection eo64 with f1_ f2_ f3_; have f4_ := f1_.symm; have f5_ := f3_.symm; clear f1_ f2_ f3_; subst f4_; subst f5_))
        refine norm_ (a' := ?_) ?_ ?_
        rotate_left
        ·simp only [putAll, Act.put, List.setIfInBounds_toArray, List.set_cons_zero, List.set_cons_succ]
         rfl
        refine one_ (i := 11) (N := none) #[true,true,true,true,true,true,true,true,true,true,true,true,false,false] rfl rfl (one_of HT_.out (by kernel_rfl)) (by decide) (fun K hK => ?_)
        have hs59 : w58.cell? ⟨gb927, 0, none⟩ = some (.int .i64 0) := (blk_cell BK927.out 0).trans rfl
        have hfs59 := blk_frozen BK927.out 0
        have hns59_0 := NB893_927.out
        have hns59_1 := NB909_927.out
        have hms59_0 := NB927_893.out
        have hms59_1 := NB927_909.out
        have hs60 : w58.cell? ⟨gb927, 1, none⟩ = some (.int .i64 0) := (blk_cell BK927.out 1).trans rfl
        have hfs60 := blk_frozen BK927.out 1
        have hns60_0 := NB893_927.out
        have hns60_1 := NB909_927.out
        have hms60_0 := NB927_893.out
        have hms60_1 := NB927_909.out
        have hs61 : w58.cell? ⟨gb927, 2, none⟩ = some (.int .i64 0) := (blk_cell BK927.out 2).trans rfl
        have hfs61 := blk_frozen BK927.out 2
        have hns61_0 := NB893_927.out
        have hns61_1 := NB909_927.out
        have hms61_0 := NB927_893.out
        have hms61_1 := NB927_909.out
        have hs63 : w58.cell? ⟨gb927, 3, none⟩ = some (.slice none 0 0) := (blk_cell BK927.out 3).trans rfl
        have hfs63 := blk_frozen BK927.out 3
        have hns63_0 := NB893_927.out
        have hns63_1 := NB909_927.out
        have hms63_0 := NB927_893.out
        have hms63_1 := NB927_909.out
        have hs65 : w58.cell? ⟨gb927, 4, none⟩ = some (.slice none 0 0) := (blk_cell BK927.out 4).trans rfl
        have hfs65 := blk_frozen BK927.out 4
        have hns65_0 := NB893_927.out
        have hns65_1 := NB909_927.out
        have hms65_0 := NB927_893.out
        have hms65_1 := NB927_909.out
        refine skip_ (w1 := ?_) (by rfl) rfl ?_ ?_
        rotate_left
        ·go_simp
         rfl
        refine hK.out _ _ ⟨((cell_far (p := ⟨gb927, _, none⟩) NB909_927.out _).trans (((cell_far (p := ⟨gb927, _, none⟩) NB909_927.out _).trans (((cell_far (p := ⟨gb927, _, none⟩) NB909_927.out _).trans (((cell_far (p := ⟨gb927, _, none⟩) NB909_927.out _).trans (((cell_far (p := ⟨gb927, _, none⟩) NB909_927.out _).trans (hHeld.1)))))))))), ((cell_far (p := ⟨gb927, _, none⟩) NB909_927.out _).trans (((cell_far (p := ⟨gb927, _, none⟩) NB909_927.out _).trans (((cell_far (p := ⟨gb927, _, none⟩) NB909_927.out _).trans (((cell_far (p := ⟨gb927, _, none⟩) NB909_927.out _).trans (((cell_far (p := ⟨gb927, _, none⟩) NB909_927.out _).trans (hHeld.2.1)))))))))), ((cell_far (p := ⟨gb927, _, none⟩) NB909_927.out _).trans (((cell_far (p := ⟨gb927, _, none⟩) NB909_927.out _).trans (((cell_far (p := ⟨gb927, _, none⟩) NB909_927.out _).trans (((cell_far (p := ⟨gb927, _, none⟩) NB909_927.out _).trans (((cell_far (p := ⟨gb927, _, none⟩) NB909_927.out _).trans (hHeld.2.2.1)))))))))), ((cell_far (p := ⟨gb927, _, none⟩) NB909_927.out _).trans (((cell_far (p := ⟨gb927, _, none⟩) NB909_927.out _).trans (((cell_far (p := ⟨gb927, _, none⟩) NB909_927.out _).trans (((cell_far (p := ⟨gb927, _, none⟩) NB909_927.out _).trans (((cell_far (p := ⟨gb927, _, none⟩) NB909_927.out _).trans (hHeld.2.2.2.1)))))))))), ((cell_far (p := ⟨gb927, _, none⟩) NB909_927.out _).trans (((cell_far (p := ⟨gb927, _, none⟩) NB909_927.out _).trans (((cell_far (p := ⟨gb927, _, none⟩) NB909_927.out _).trans (((cell_far (p := ⟨gb927, _, none⟩) NB909_927.out _).trans (((cell_far (p := ⟨gb927, _, none⟩) NB909_927.out _).trans (hHeld.2.2.2.2.1)))))))))), ((cell_far (p := ⟨gb927, _, none⟩) (by first | exact Kd.own_blk (Kd.R_ne HO_12.out BK927.out (by decide)) | (rw [add_block]; exact Kd.own_blk (Kd.R_ne HO_12.out BK927.out (by decide))) | (show (Addr.add _ _).block ≠ _; rw [add_block]; exact Kd.own_blk (Kd.R_ne HO_12.out BK927.out (by decide))) | (dsimp only; exact Kd.own_blk (Kd.R_ne HO_12.out BK927.out (by decide)))) _).trans (((cell_far (p := ⟨gb927, _, none⟩) (by first | exact Kd.own_blk (Kd.R_ne HO_12.out BK927.out (by decide)) | (rw [add_block]; exact Kd.own_blk (Kd.R_ne HO_12.out BK927.out (by decide))) | (show (Addr.add _ _).block ≠ _; rw [add_block]; exact Kd.own_blk (Kd.R_ne HO_12.out BK927.out (by decide))) | (dsimp only; exact Kd.own_blk (Kd.R_ne HO_12.out BK927.out (by decide)))) _).trans (((cell_far (p := ⟨gb927, _, none⟩) (by first | exact Kd.own_blk (Kd.R_ne HO_12.out BK927.out (by decide)) | (rw [add_block]; exact Kd.own_blk (Kd.R_ne HO_12.out BK927.out (by decide))) | (show (Addr.add _ _).block ≠ _; rw [add_block]; exact Kd.own_blk (Kd.R_ne HO_12.out BK927.out (by decide))) | (dsimp only; exact Kd.own_blk (Kd.R_ne HO_12.out BK927.out (by decide)))) _).trans (((cell_far (p := ⟨gb927, _, none⟩) (by first | exact Kd.own_blk (Kd.R_ne HO_12.out BK927.out (by decide)) | (rw [add_block]; exact Kd.own_blk (Kd.R_ne HO_12.out BK927.out (by decide))) | (show (Addr.add _ _).block ≠ _; rw [add_block]; exact Kd.own_blk (Kd.R_ne HO_12.out BK927.out (by decide))) | (dsimp only; exact Kd.own_blk (Kd.R_ne HO_12.out BK927.out (by decide)))) _).trans (((cell_far (p := ⟨gb927, _, none⟩) (by first | exact Kd.own_blk (Kd.R_ne HO_12.out BK927.out (by decide)) | (rw [add_block]; exact Kd.own_blk (Kd.R_ne HO_12.out BK927.out (by decide))) | (show (Addr.add _ _).block ≠ _; rw [add_block]; exact Kd.own_blk (Kd.R_ne HO_12.out BK927.out (by decide))) | (dsimp only; exact Kd.own_blk (Kd.R_ne HO_12.out BK927.out (by decide)))) _).trans (hHeld.2.2.2.2.2.1)))))))))), ((cell_far (p := ⟨gb927, _, none⟩) (by first | exact Kd.own_blk (Kd.R_ne HO_12.out BK927.out (by decide)) | (rw [add_block]; exact Kd.own_blk (Kd.R_ne HO_12.out BK927.out (by decide))) | (show (Addr.add _ _).block ≠ _; rw [add_block]; exact Kd.own_blk (Kd.R_ne HO_12.out BK927.out (by decide))) | (dsimp only; exact Kd.own_blk (Kd.R_ne HO_12.out BK927.out (by decide)))) _).trans (((cell_far (p := ⟨gb927, _, none⟩) (by first | exact Kd.own_blk (Kd.R_ne HO_12.out BK927.out (by decide)) | (rw [add_block]; exact Kd.own_blk (Kd.R_ne HO_12.out BK927.out (by decide))) | (show (Addr.add _ _).block ≠ _; rw [add_block]; exact Kd.own_blk (Kd.R_ne HO_12.out BK927.out (by decide))) | (dsimp only; exact Kd.own_blk (Kd.R_ne HO_12.out BK927.out (by decide)))) _).trans (((cell_far (p := ⟨gb927, _, none⟩) (by first | exact Kd.own_blk (Kd.R_ne HO_12.out BK927.out (by decide)) | (rw [add_block]; exact Kd.own_blk (Kd.R_ne HO_12.out BK927.out (by decide))) | (show (Addr.add _ _).block ≠ _; rw [add_block]; exact Kd.own_blk (Kd.R_ne HO_12.out BK927.out (by decide))) | (dsimp only; exact Kd.own_blk (Kd.R_ne HO_12.out BK927.out (by decide)))) _).trans (((cell_far (p := ⟨gb927, _, none⟩) (by first | exact Kd.own_blk (Kd.R_ne HO_12.out BK927.out (by decide)) | (rw [add_block]; exact Kd.own_blk (Kd.R_ne HO_12.out BK927.out (by decide))) | (show (Addr.add _ _).block ≠ _; rw [add_block]; exact Kd.own_blk (Kd.R_ne HO_12.out BK927.out (by decide))) | (dsimp only; exact Kd.own_blk (Kd.R_ne HO_12.out BK927.out (by decide)))) _).trans (((cell_far (p := ⟨gb927, _, none⟩) (by first | exact Kd.own_blk (Kd.R_ne HO_12.out BK927.out (by decide)) | (rw [add_block]; exact Kd.own_blk (Kd.R_ne HO_12.out BK927.out (by decide))) | (show (Addr.add _ _).block ≠ _; rw [add_block]; exact Kd.own_blk (Kd.R_ne HO_12.out BK927.out (by decide))) | (dsimp only; exact Kd.own_blk (Kd.R_ne HO_12.out BK927.out (by decide)))) _).trans (hHeld.2.2.2.2.2.2.1)))))))))), ((cell_far (p := ⟨gb927, _, none⟩) (by first | exact Kd.own_blk (Kd.R_ne HO_12.out BK927.out (by decide)) | (rw [add_block]; exact Kd.own_blk (Kd.R_ne HO_12.out BK927.out (by decide))) | (show (Addr.add _ _).block ≠ _; rw [add_block]; exact Kd.own_blk (Kd.R_ne HO_12.out BK927.out (by decide))) | (dsimp only; exact Kd.own_blk (Kd.R_ne HO_12.out BK927.out (by decide)))) _).trans (((cell_far (p := ⟨gb927, _, none⟩) (by first | exact Kd.own_blk (Kd.R_ne HO_12.out BK927.out (by decide)) | (rw [add_block]; exact Kd.own_blk (Kd.R_ne HO_12.out BK927.out (by decide))) | (show (Addr.add _ _).block ≠ _; rw [add_block]; exact Kd.own_blk (Kd.R_ne HO_12.out BK927.out (by decide))) | (dsimp only; exact Kd.own_blk (Kd.R_ne HO_12.out BK927.out (by decide)))) _).trans (((cell_far (p := ⟨gb927, _, none⟩) (by first | exact Kd.own_blk (Kd.R_ne HO_12.out BK927.out (by decide)) | (rw [add_block]; exact Kd.own_blk (Kd.R_ne HO_12.out BK927.out (by decide))) | (show (Addr.add _ _).block ≠ _; rw [add_block]; exact Kd.own_blk (Kd.R_ne HO_12.out BK927.out (by decide))) | (dsimp only; exact Kd.own_blk (Kd.R_ne HO_12.out BK927.out (by decide)))) _).trans (((cell_far (p := ⟨gb927, _, none⟩) (by first | exact Kd.own_blk (Kd.R_ne HO_12.out BK927.out (by decide)) | (rw [add_block]; exact Kd.own_blk (Kd.R_ne HO_12.out BK927.out (by decide))) | (show (Addr.add _ _).block ≠ _; rw [add_block]; exact Kd.own_blk (Kd.R_ne HO_12.out BK927.out (by decide))) | (dsimp only; exact Kd.own_blk (Kd.R_ne HO_12.out BK927.out (by decide)))) _).trans (((cell_far (p := ⟨gb927, _, none⟩) (by first | exact Kd.own_blk (Kd.R_ne HO_12.out BK927.out (by decide)) | (rw [add_block]; exact Kd.own_blk (Kd.R_ne HO_12.out BK927.out (by decide))) | (show (Addr.add _ _).block ≠ _; rw [add_block]; exact Kd.own_blk (Kd.R_ne HO_12.out BK927.out (by decide))) | (dsimp only; exact Kd.own_blk (Kd.R_ne HO_12.out BK927.out (by decide)))) _).trans (hHeld.2.2.2.2.2.2.2.1)))))))))), ((cell_far (p := ⟨gb927, _, none⟩) (by first | exact Kd.own_blk (Kd.R_ne HO_12.out BK927.out (by decide)) | (rw [add_block]; exact Kd.own_blk (Kd.R_ne HO_12.out BK927.out (by decide))) | (show (Addr.add _ _).block ≠ _; rw [add_block]; exact Kd.own_blk (Kd.R_ne HO_12.out BK927.out (by decide))) | (dsimp only; exact Kd.own_blk (Kd.R_ne HO_12.out BK927.out (by decide)))) _).trans (((cell_far (p := ⟨gb927, _, none⟩) (by first | exact Kd.own_blk (Kd.R_ne HO_12.out BK927.out (by decide)) | (rw [add_block]; exact Kd.own_blk (Kd.R_ne HO_12.out BK927.out (by decide))) | (show (Addr.add _ _).block ≠ _; rw [add_block]; exact Kd.own_blk (Kd.R_ne HO_12.out BK927.out (by decide))) | (dsimp only; exact Kd.own_blk (Kd.R_ne HO_12.out BK927.out (by decide)))) _).trans (((cell_far (p := ⟨gb927, _, none⟩) (by first | exact Kd.own_blk (Kd.R_ne HO_12.out BK927.out (by decide)) | (rw [add_block]; exact Kd.own_blk (Kd.R_ne HO_12.out BK927.out (by decide))) | (show (Addr.add _ _).block ≠ _; rw [add_block]; exact Kd.own_blk (Kd.R_ne HO_12.out BK927.out (by decide))) | (dsimp only; exact Kd.own_blk (Kd.R_ne HO_12.out BK927.out (by decide)))) _).trans (((cell_far (p := ⟨gb927, _, none⟩) (by first | exact Kd.own_blk (Kd.R_ne HO_12.out BK927.out (by decide)) | (rw [add_block]; exact Kd.own_blk (Kd.R_ne HO_12.out BK927.out (by decide))) | (show (Addr.add _ _).block ≠ _; rw [add_block]; exact Kd.own_blk (Kd.R_ne HO_12.out BK927.out (by decide))) | (dsimp only; exact Kd.own_blk (Kd.R_ne HO_12.out BK927.out (by decide)))) _).trans (((cell_far (p := ⟨gb927, _, none⟩) (by first | exact Kd.own_blk (Kd.R_ne HO_12.out BK927.out (by decide)) | (rw [add_block]; exact Kd.own_blk (Kd.R_ne HO_12.out BK927.out (by decide))) | (show (Addr.add _ _).block ≠ _; rw [add_block]; exact Kd.own_blk (Kd.R_ne HO_12.out BK927.out (by decide))) | (dsimp only; exact Kd.own_blk (Kd.R_ne HO_12.out BK927.out (by decide)))) _).trans (hHeld.2.2.2.2.2.2.2.2))))))))))⟩ (fun hHeld => ?_)
        clear hK K
        refine pure_ (i := 12) (N := some 15) (v := ?_) (a' := ?_) #[true,true,true,true,true,true,true,true,true,true,true,true,true,false] rfl rfl (any_of HT_.out (by kernel_rfl)) (fun _ _ _ h => h) (Or.inl ⟨by rfl, ?_⟩) ?_ ?_
        rotate_left
        ·intro w'
         go_simp
         with_reducible rfl
        rotate_left
        ·simp only [Act.put,sT,sZ,sU,i64_w,i32_w]
         rfl
        refine pure_ (i := 13) (N := some 16) (v := ?_) (a' := ?_) #[true,true,true,true,true,true,true,true,true,true,true,true,true,true] rfl rfl (any_of HT_.out (by kernel_rfl)) (fun _ _ _ h => h) (Or.inl ⟨by rfl, ?_⟩) ?_ ?_
        rotate_left
        ·intro w'
         go_simp
         with_reducible rfl
        rotate_left
        ·simp only [Act.put,sT,sZ,sU,i64_w,i32_w]
         rfl
        refine done_ (done_of HT_.out (by kernel_rfl)) ?_
        have hnb66 := NB909_893.out
        have hnc66 := NB893_909.out
        have hnb67 := NB909_927.out
        have hnc67 := NB927_909.out
        obtain ⟨hcz68_0, hcz68_1, hcz68_2, hcz68_3, hcz68_4⟩ := cells5 BK909
        obtain ⟨hfz68_0, hfz68_1, hfz68_2, hfz68_3, hfz68_4⟩ := frz5 BK909
        try go_wp2_with (first | ((with_reducible refine gate_callee (f := 21) rfl ?_); refine goesL_ (some 59) rfl rfl Try.func21 (by kernel_rfl) rfl #[.agg #[.int .i64 x910000_1, .int .i64 x910001_1, .int .i64 x910002_1, .slice Ao53 x910003_1.length co53, .slice Ao54 x910004_1.length co54]] rfl (by (try simp only [List.map_toArray, List.map_cons, List.map_nil]); first | done | rfl | (simp only [List.length_drop, List.length_take]; rfl)) ?_; (with_reducible refine (docket_Check.calls k1 x910000_1 x910001_1 x910002_1 _ _ x910003_1 _ _ x910004_1 t932 _ ?side1 ?side2 ?side3 ?side4 A50.out).mono ?_); (case side1 => refine (Kd.R_reads' (e := 3) (base := w.heap.size) (ok := fun k_ => some k_ ≠ (.slice Ao62 t917.length co62 : Value).ownBlock) (n := x910003_1.length) (c := co53) ?_).2.2; exact (by (with_reducible repeat (first | apply Kd.R_alloc | apply Kd.R_drewN | apply Kd.R_drew)); exact (Kd.R_mono (Kd.R_far (p := ⟨gb927, 4, none⟩) (Kd.R_far (p := ⟨gb927, 3, none⟩) (Kd.R_far (p := ⟨gb927, 2, none⟩) (Kd.R_far (p := ⟨gb927, 1, none⟩) (Kd.R_far (p := ⟨gb927, 0, none⟩) (Kd.R_types HO_910003.out BK927.out (by decide)) (fun _ hk => hk.2) (.int .i64 t914)) (fun _ hk => hk.2) (.int .i64 t915)) (fun _ hk => hk.2) (.int .i64 t916)) (fun _ hk => hk.2) (.slice Ao62 t917.length co62)) (fun _ hk => hk.2) (.slice Ao64 t920.length co64)) (fun _ h_ => h_.1)))); (case side2 => exact (Kd.R_reads' HO_910003.out).2.1); (case side3 => refine (Kd.R_reads' (e := 50) (base := w.heap.size) (ok := fun k_ => some k_ ≠ (.slice Ao64 t920.length co64 : Value).ownBlock) (n := x910004_1.length) (c := co54) ?_).2.2; exact (by (with_reducible repeat (first | apply Kd.R_alloc | apply Kd.R_drewN | apply Kd.R_drew)); exact (Kd.R_mono (Kd.R_far (p := ⟨gb927, 4, none⟩) (Kd.R_far (p := ⟨gb927, 3, none⟩) (Kd.R_far (p := ⟨gb927, 2, none⟩) (Kd.R_far (p := ⟨gb927, 1, none⟩) (Kd.R_far (p := ⟨gb927, 0, none⟩) (Kd.R_types HO_910004.out BK927.out (by decide)) (fun _ hk => hk.2) (.int .i64 t914)) (fun _ hk => hk.2) (.int .i64 t915)) (fun _ hk => hk.2) (.int .i64 t916)) (fun _ hk => hk.2) (.slice Ao62 t917.length co62)) (fun _ hk => hk.2) (.slice Ao64 t920.length co64)) (fun _ h_ => h_.1)))); (case side4 => exact (Kd.R_reads' HO_910004.out).2.1); rintro e w69 ⟨rfl, hb⟩; refine ⟨_, rfl, ?_⟩; have n0_ := Aside0.mk (Kd.R_below (by (with_reducible repeat (first | apply Kd.R_alloc | apply Kd.R_drewN | apply Kd.R_drew)); exact (Kd.R_mono (Kd.R_far (p := ⟨gb927, 4, none⟩) (Kd.R_far (p := ⟨gb927, 3, none⟩) (Kd.R_far (p := ⟨gb927, 2, none⟩) (Kd.R_far (p := ⟨gb927, 1, none⟩) (Kd.R_far (p := ⟨gb927, 0, none⟩) (Kd.R_types HO_11.out BK927.out (by decide)) (fun _ hk => hk.2) (.int .i64 t914)) (fun _ hk => hk.2) (.int .i64 t915)) (fun _ hk => hk.2) (.int .i64 t916)) (fun _ hk => hk.2) (.slice Ao62 t917.length co62)) (fun _ hk => hk.2) (.slice Ao64 t920.length co64)) (fun _ h_ => h_.1))) hb); have n1_ := Aside0.mk (Kd.R_below (by (with_reducible repeat (first | apply Kd.R_alloc | apply Kd.R_drewN | apply Kd.R_drew)); exact (Kd.R_mono (Kd.R_far (p := ⟨gb927, 4, none⟩) (Kd.R_far (p := ⟨gb927, 3, none⟩) (Kd.R_far (p := ⟨gb927, 2, none⟩) (Kd.R_far (p := ⟨gb927, 1, none⟩) (Kd.R_far (p := ⟨gb927, 0, none⟩) (Kd.R_types HO_12.out BK927.out (by decide)) (fun _ hk => hk.2) (.int .i64 t914)) (fun _ hk => hk.2) (.int .i64 t915)) (fun _ hk => hk.2) (.int .i64 t916)) (fun _ hk => hk.2) (.slice Ao62 t917.length co62)) (fun _ hk => hk.2) (.slice Ao64 t920.length co64)) (fun _ h_ => h_.1))) hb); have n2_ := Aside0.mk (Kd.R_below (by (with_reducible repeat (first | apply Kd.R_alloc | apply Kd.R_drewN | apply Kd.R_drew)); exact (Kd.R_mono (Kd.R_far (p := ⟨gb927, 4, none⟩) (Kd.R_far (p := ⟨gb927, 3, none⟩) (Kd.R_far (p := ⟨gb927, 2, none⟩) (Kd.R_far (p := ⟨gb927, 1, none⟩) (Kd.R_far (p := ⟨gb927, 0, none⟩) (Kd.R_types HO_910003.out BK927.out (by decide)) (fun _ hk => hk.2) (.int .i64 t914)) (fun _ hk => hk.2) (.int .i64 t915)) (fun _ hk => hk.2) (.int .i64 t916)) (fun _ hk => hk.2) (.slice Ao62 t917.length co62)) (fun _ hk => hk.2) (.slice Ao64 t920.length co64)) (fun _ h_ => h_.1))) hb); have n3_ := Aside0.mk (Kd.R_below (by (with_reducible repeat (first | apply Kd.R_alloc | apply Kd.R_drewN | apply Kd.R_drew)); exact (Kd.R_mono (Kd.R_far (p := ⟨gb927, 4, none⟩) (Kd.R_far (p := ⟨gb927, 3, none⟩) (Kd.R_far (p := ⟨gb927, 2, none⟩) (Kd.R_far (p := ⟨gb927, 1, none⟩) (Kd.R_far (p := ⟨gb927, 0, none⟩) (Kd.R_types HO_910004.out BK927.out (by decide)) (fun _ hk => hk.2) (.int .i64 t914)) (fun _ hk => hk.2) (.int .i64 t915)) (fun _ hk => hk.2) (.int .i64 t916)) (fun _ hk => hk.2) (.slice Ao62 t917.length co62)) (fun _ hk => hk.2) (.slice Ao64 t920.length co64)) (fun _ h_ => h_.1))) hb); have n4_ := Aside0.mk (Kd.R_below (by (with_reducible repeat (first | apply Kd.R_alloc | apply Kd.R_drewN | apply Kd.R_drew)); exact (Kd.R_mono (Kd.R_far (p := ⟨gb927, 4, none⟩) (Kd.R_far (p := ⟨gb927, 3, none⟩) (Kd.R_far (p := ⟨gb927, 2, none⟩) (Kd.R_far (p := ⟨gb927, 1, none⟩) (Kd.R_far (p := ⟨gb927, 0, none⟩) (Kd.R_types HO919.out BK927.out (by decide)) (fun _ hk => hk.2) (.int .i64 t914)) (fun _ hk => hk.2) (.int .i64 t915)) (fun _ hk => hk.2) (.int .i64 t916)) (fun _ hk => hk.2) (.slice Ao62 t917.length co62)) (fun _ hk => hk.2) (.slice Ao64 t920.length co64)) (fun _ h_ => h_.1))) hb); have n5_ := Aside0.mk (Kd.R_below (by (with_reducible repeat (first | apply Kd.R_alloc | apply Kd.R_drewN | apply Kd.R_drew)); exact (Kd.R_mono (Kd.R_far (p := ⟨gb927, 4, none⟩) (Kd.R_far (p := ⟨gb927, 3, none⟩) (Kd.R_far (p := ⟨gb927, 2, none⟩) (Kd.R_far (p := ⟨gb927, 1, none⟩) (Kd.R_far (p := ⟨gb927, 0, none⟩) (Kd.R_types HO922.out BK927.out (by decide)) (fun _ hk => hk.2) (.int .i64 t914)) (fun _ hk => hk.2) (.int .i64 t915)) (fun _ hk => hk.2) (.int .i64 t916)) (fun _ hk => hk.2) (.slice Ao62 t917.length co62)) (fun _ hk => hk.2) (.slice Ao64 t920.length co64)) (fun _ h_ => h_.1))) hb); have n6_ := Aside0.mk (Kd.R_below (by (with_reducible repeat (first | apply Kd.R_alloc | apply Kd.R_drewN | apply Kd.R_drew)); exact (Kd.R_mono (Kd.R_far (p := ⟨gb927, 4, none⟩) (Kd.R_far (p := ⟨gb927, 3, none⟩) (Kd.R_far (p := ⟨gb927, 2, none⟩) (Kd.R_far (p := ⟨gb927, 1, none⟩) (Kd.R_far (p := ⟨gb927, 0, none⟩) (Kd.R_types HO925.out BK927.out (by decide)) (fun _ hk => hk.2) (.int .i64 t914)) (fun _ hk => hk.2) (.int .i64 t915)) (fun _ hk => hk.2) (.int .i64 t916)) (fun _ hk => hk.2) (.slice Ao62 t917.length co62)) (fun _ hk => hk.2) (.slice Ao64 t920.length co64)) (fun _ h_ => h_.1))) hb); have n7_ := Aside0.mk (blk_below (g := gb893) (o := .cells #[.int .u8 a0_0, .int .u8 a0_1] 22 (0, 0)) (by (with_reducible repeat (first|refine bN ?_ _|refine bD ?_|refine bA ?_ _)); refine blk_far ?_ NB893_927.out _; (with_reducible repeat (first|refine bN ?_ _|refine bD ?_|refine bA ?_ _)); refine blk_far ?_ NB893_927.out _; (with_reducible repeat (first|refine bN ?_ _|refine bD ?_|refine bA ?_ _)); refine blk_far ?_ NB893_927.out _; (with_reducible repeat (first|refine bN ?_ _|refine bD ?_|refine bA ?_ _)); refine blk_far ?_ NB893_927.out _; (with_reducible repeat (first|refine bN ?_ _|refine bD ?_|refine bA ?_ _)); refine blk_far ?_ NB893_927.out _; (with_reducible repeat (first|refine bN ?_ _|refine bD ?_|refine bA ?_ _)); exact BK893.out) hb); have n8_ := Aside0.mk (blk_below (g := gb909) (o := .cells #[.int .i64 x910000_1, .int .i64 x910001_1, .int .i64 x910002_1, .slice Ao53 x910003_1.length co53, .slice Ao54 x910004_1.length co54] 30 (0, 0)) (by (with_reducible repeat (first|refine bN ?_ _|refine bD ?_|refine bA ?_ _)); refine blk_far ?_ NB909_927.out _; (with_reducible repeat (first|refine bN ?_ _|refine bD ?_|refine bA ?_ _)); refine blk_far ?_ NB909_927.out _; (with_reducible repeat (first|refine bN ?_ _|refine bD ?_|refine bA ?_ _)); refine blk_far ?_ NB909_927.out _; (with_reducible repeat (first|refine bN ?_ _|refine bD ?_|refine bA ?_ _)); refine blk_far ?_ NB909_927.out _; (with_reducible repeat (first|refine bN ?_ _|refine bD ?_|refine bA ?_ _)); refine blk_far ?_ NB909_927.out _; (with_reducible repeat (first|refine bN ?_ _|refine bD ?_|refine bA ?_ _)); exact BK909.out) hb); have n9_ := Aside0.mk (blk_below (g := gb927) (o := .cells #[.int .i64 t914, .int .i64 t915, .int .i64 t916, .slice Ao62 t917.length co62, .slice Ao64 t920.length co64] 30 (0, 0)) (by (with_reducible repeat (first|refine bN ?_ _|refine bD ?_|refine bA ?_ _)); refine blk_put (cs := #[.int .i64 t914, .int .i64 t915, .int .i64 t916, .slice Ao62 t917.length co62, .slice none 0 0]) ?_ 4 _ rfl; (with_reducible repeat (first|refine bN ?_ _|refine bD ?_|refine bA ?_ _)); refine blk_put (cs := #[.int .i64 t914, .int .i64 t915, .int .i64 t916, .slice none 0 0, .slice none 0 0]) ?_ 3 _ rfl; (with_reducible repeat (first|refine bN ?_ _|refine bD ?_|refine bA ?_ _)); refine blk_put (cs := #[.int .i64 t914, .int .i64 t915, .int .i64 0, .slice none 0 0, .slice none 0 0]) ?_ 2 _ rfl; (with_reducible repeat (first|refine bN ?_ _|refine bD ?_|refine bA ?_ _)); refine blk_put (cs := #[.int .i64 t914, .int .i64 0, .int .i64 0, .slice none 0 0, .slice none 0 0]) ?_ 1 _ rfl; (with_reducible repeat (first|refine bN ?_ _|refine bD ?_|refine bA ?_ _)); refine blk_put (cs := #[.int .i64 0, .int .i64 0, .int .i64 0, .slice none 0 0, .slice none 0 0]) ?_ 0 _ rfl; (with_reducible repeat (first|refine bN ?_ _|refine bD ?_|refine bA ?_ _)); exact BK927.out) hb); have n10_ := Aside0.mk (below_step (pB HB) hb); clear HO_11; clear HO_12; clear HO_910003; clear HO_910004; clear HO919; clear HO922; clear HO925; clear BK893; clear BK909; clear BK927; clear HB; have HO_11 := n0_; have HO_12 := n1_; have HO_910003 := n2_; have HO_910004 := n3_; have HO919 := n4_; have HO922 := n5_; have HO925 := n6_; have BK893 := n7_; have BK909 := n8_; have BK927 := n9_; have HB := n10_; clear n0_ n1_ n2_ n3_ n4_ n5_ n6_ n7_ n8_ n9_ n10_; (try clear hb); (try clear hb2); (try clear hk); (try clear hi)))
        go_roundg k1
        case measure => have := HK1.out; omega
        case rel => exact ⟨(x11_1), (wrap64 (x13_1 + 1)), (x910000_1), (x910001_1), (x910002_1), (x910003_1), (x910004_1), (.slice Ao53 x910003_1.length co53), (.slice Ao54 x910004_1.length co54), (by first | rfl | (simp; done) | (simp [*]; done)), H', ⟨by have := HK1.out; omega⟩, ⟨by (with_reducible repeat (first | apply Kd.R_alloc | apply Kd.R_drewN | apply Kd.R_drew)); exact Kd.R_mono HO_11.out (fun _ hk => trivial)⟩, ⟨by (with_reducible repeat (first | apply Kd.R_alloc | apply Kd.R_drewN | apply Kd.R_drew)); exact HO_12.out⟩, ⟨by (with_reducible repeat (first | apply Kd.R_alloc | apply Kd.R_drewN | apply Kd.R_drew)); exact Kd.R_mono HO_910003.out (fun _ hk => trivial)⟩, ⟨by (with_reducible repeat (first | apply Kd.R_alloc | apply Kd.R_drewN | apply Kd.R_drew)); exact Kd.R_mono HO_910004.out (fun _ hk => trivial)⟩, ⟨by (with_reducible repeat (first|refine bN ?_ _|refine bD ?_|refine bA ?_ _)); exact BK893.out⟩, ⟨by (with_reducible repeat (first|refine bN ?_ _|refine bD ?_|refine bA ?_ _)); exact BK909.out⟩, ⟨pB HB⟩⟩
       ·rw [if_neg c51] at H
        exact absurd H (by simp)
     ·rw [if_neg c21] at H
      exact absurd H (by simp)
    ·rw [if_neg c20] at H
     have c20b0 : decide (x13_1 < (t910.length : Int)) = false := decide_eq_false c20
     clear c20
     replace H := Option.bind_eq_some_iff.mp H
     obtain ⟨⟨t933, t934, t935, t936, t939, t942, t945⟩, A700, H⟩ := H
     replace H : (if t945 = 0 then ((docket_Check.f k1 t933 t934 t935 t936 t939).bind fun t947 => (insolvencylaw33_DocketOnce.j1 k1 x11_1 t942 (t947 != 0) t933 t934 t935 t936 t939)) else (insolvencylaw33_DocketOnce.j1 k1 x11_1 t942 true t933 t934 t935 t936 t939)) = some r := H
     have A70 := Aside0.mk A700
     clear A700
     have HC71 := Aside0.mk H
     clear H
     obtain ⟨Ao72, co72, eo72⟩ := Kd.R_slice HO_12.out
     subst eo72
     have hnb73 := NB909_893.out
     have hnc73 := NB893_909.out
     obtain ⟨hcz74_0, hcz74_1, hcz74_2, hcz74_3, hcz74_4⟩ := cells5 BK909
     obtain ⟨hfz74_0, hfz74_1, hfz74_2, hfz74_3, hfz74_4⟩ := frz5 BK909
     obtain ⟨Ao75, co75, eo75⟩ := Kd.R_slice HO_910003.out
     subst eo75
     obtain ⟨Ao76, co76, eo76⟩ := Kd.R_slice HO_910004.out
     subst eo76
     go_upto_region 16 with (first | ((with_reducible refine gate_callee (f := 13) rfl ?_); refine goesL_ (some 69) rfl rfl Try.func13 (by kernel_rfl) rfl #[.agg #[.int .i64 x910000_1, .int .i64 x910001_1, .int .i64 x910002_1, .slice Ao75 x910003_1.length co75, .slice Ao76 x910004_1.length co76], .int .i64 (wrap64 (x910000_1 + (wrap64 (Int.tmod a3 60))))] rfl (by (try simp only [List.map_toArray, List.map_cons, List.map_nil]); first | done | rfl | (simp only [List.length_drop, List.length_take]; rfl)) ?_; (with_reducible refine (docket_Advance.calls k1 x910000_1 x910001_1 x910002_1 _ _ x910003_1 _ _ x910004_1 (wrap64 (x910000_1 + (wrap64 (Int.tmod a3 60)))) t933 t934 t935 t936 t939 t942 t945 _ ?side1 ?side2 ?side3 ?side4 A70.out).mono ?_); (case side1 => repeat (first | exact (Kd.R_reads' HO_910003.out).2.2 | (with_reducible refine Kd.C_alloc ?_ _) | (with_reducible refine Kd.C_drewN ?_ _) | (with_reducible refine Kd.C_drew ?_))); (case side2 => exact (Kd.R_reads' HO_910003.out).2.1); (case side3 => repeat (first | exact (Kd.R_reads' HO_910004.out).2.2 | (with_reducible refine Kd.C_alloc ?_ _) | (with_reducible refine Kd.C_drewN ?_ _) | (with_reducible refine Kd.C_drew ?_))); (case side4 => exact (Kd.R_reads' HO_910004.out).2.1); rintro e w77 ⟨v937, v940, v943, rfl, ho0, ho1, ho2, hb⟩; refine ⟨_, rfl, ?_⟩; have n0_ := Aside0.mk (Kd.R_elder' (by (with_reducible repeat (first | apply Kd.R_alloc | apply Kd.R_drewN | apply Kd.R_drew)); exact HO_11.out) (Kd.R_base ho2) hb); have n1_ := rB HO_12 hb; have n2_ := Aside0.mk (Kd.R_elder' (by (with_reducible repeat (first | apply Kd.R_alloc | apply Kd.R_drewN | apply Kd.R_drew)); exact HO_910003.out) (Kd.R_base ho0) hb); have n3_ := Aside0.mk (Kd.R_elder' (by (with_reducible repeat (first | apply Kd.R_alloc | apply Kd.R_drewN | apply Kd.R_drew)); exact HO_910004.out) (Kd.R_base ho1) hb); have n4_ := Aside0.mk (Kd.R_lower (Kd.R_new' ho0 (Kd.R_lt (by (with_reducible repeat (first | apply Kd.R_alloc | apply Kd.R_drewN | apply Kd.R_drew)); exact HO_910003.out))) (below_size (pB HB))); have n5_ := Aside0.mk (Kd.R_lower (Kd.R_new' ho1 (Kd.R_lt (by (with_reducible repeat (first | apply Kd.R_alloc | apply Kd.R_drewN | apply Kd.R_drew)); exact HO_910004.out))) (below_size (pB HB))); have n6_ := Aside0.mk (Kd.R_lower (Kd.R_new' ho2 (Kd.R_lt (by (with_reducible repeat (first | apply Kd.R_alloc | apply Kd.R_drewN | apply Kd.R_drew)); exact HO_11.out))) (below_size (pB HB))); have n7_ := bB BK893 hb; have n8_ := bB BK909 hb; have n9_ := Aside0.mk (below_step (pB HB) hb); clear HO_11; clear HO_12; clear HO_910003; clear HO_910004; clear BK893; clear BK909; clear HB; have HO_11 := n0_; have HO_12 := n1_; have HO_910003 := n2_; have HO_910004 := n3_; have HO938 := n4_; have HO941 := n5_; have HO944 := n6_; have BK893 := n7_; have BK909 := n8_; have HB := n9_; clear n0_ n1_ n2_ n3_ n4_ n5_ n6_ n7_ n8_ n9_; (try clear hb); (try clear hb2); (try clear hk); (try clear hi); (try clear ho0); (try clear ho1); (try clear ho2)) | ((with_reducible refine gate_dst (N := 17) rfl ?_); (try (refine gate_guard (by rfl) ?_; dsimp only)); refine box_event ?hg (N := 17) ?hd (cs := #[.int .i64 0, .int .i64 0, .int .i64 0, .slice none 0 0, .slice none 0 0]) (t := 30) ?hr ?_; (case hd => rfl); (case hg => rfl); (case hr => first | (go_simp; done) | (go_simp; rfl)); intro gb946 hg w78 hbox hb; have n0_ := rB HO_11 hb; have n1_ := rB HO_12 hb; have n2_ := rB HO_910003 hb; have n3_ := rB HO_910004 hb; have n4_ := rB HO938 hb; have n5_ := rB HO941 hb; have n6_ := rB HO944 hb; have n7_ := bB BK893 hb; have n8_ := bB BK909 hb; have n9_ := Aside0.mk (below_step (pB HB) hb); have n10_ := Aside0.mk (hbox); have n11_ := Aside0.mk ((by rw [hg]; exact (below_size (pB HB)) : w.heap.size ≤ gb946)); have n12_ := Aside0.mk ((by rw [hg]; exact (below_size (pB HB)) : w.heap.size ≤ gb946)); have n13_ := Aside0.mk ((by rw [hg]; exact Nat.ne_of_lt (blk_lt (g := gb893) (o := .cells #[.int .u8 a0_0, .int .u8 a0_1] 22 (0, 0)) (by (with_reducible repeat (first|refine bN ?_ _|refine bD ?_|refine bA ?_ _)); exact BK893.out)) : gb893 ≠ gb946)); have n14_ := Aside0.mk ((by rw [hg]; exact Nat.ne_of_gt (blk_lt (g := gb893) (o := .cells #[.int .u8 a0_0, .int .u8 a0_1] 22 (0, 0)) (by (with_reducible repeat (first|refine bN ?_ _|refine bD ?_|refine bA ?_ _)); exact BK893.out)) : gb946 ≠ gb893)); have n15_ := Aside0.mk ((by rw [hg]; exact Nat.ne_of_lt (blk_lt (g := gb909) (o := .cells #[.int .i64 x910000_1, .int .i64 x910001_1, .int .i64 x910002_1, .slice Ao75 x910003_1.length co75, .slice Ao76 x910004_1.length co76] 30 (0, 0)) (by (with_reducible repeat (first|refine bN ?_ _|refine bD ?_|refine bA ?_ _)); exact BK909.out)) : gb909 ≠ gb946)); have n16_ := Aside0.mk ((by rw [hg]; exact Nat.ne_of_gt (blk_lt (g := gb909) (o := .cells #[.int .i64 x910000_1, .int .i64 x910001_1, .int .i64 x910002_1, .slice Ao75 x910003_1.length co75, .slice Ao76 x910004_1.length co76] 30 (0, 0)) (by (with_reducible repeat (first|refine bN ?_ _|refine bD ?_|refine bA ?_ _)); exact BK909.out)) : gb946 ≠ gb909)); clear HO_11; clear HO_12; clear HO_910003; clear HO_910004; clear HO938; clear HO941; clear HO944; clear BK893; clear BK909; clear HB; have HO_11 := n0_; have HO_12 := n1_; have HO_910003 := n2_; have HO_910004 := n3_; have HO938 := n4_; have HO941 := n5_; have HO944 := n6_; have BK893 := n7_; have BK909 := n8_; have HB := n9_; have BK946 := n10_; have GW946 := n11_; have GE946 := n12_; have NB893_946 := n13_; have NB946_893 := n14_; have NB909_946 := n15_; have NB946_909 := n16_; clear n0_ n1_ n2_ n3_ n4_ n5_ n6_ n7_ n8_ n9_ n10_ n11_ n12_ n13_ n14_ n15_ n16_; clear hb hbox hg; have hnb79 := NB946_893.out; have hnc79 := NB893_946.out; have hnb80 := NB946_909.out; have hnc80 := NB909_946.out; obtain ⟨hcz81_0, hcz81_1, hcz81_2, hcz81_3, hcz81_4⟩ := cells5 BK946; obtain ⟨hfz81_0, hfz81_1, hfz81_2, hfz81_3, hfz81_4⟩ := frz5 BK946; obtain ⟨Ao82, co82, eo82⟩ := Kd.R_slice HO938.out; subst eo82; obtain ⟨Ao83, co83, eo83⟩ := Kd.R_slice HO941.out; subst eo83))
     (try simp only [Act.put, List.setIfInBounds_toArray, List.set_cons_zero, List.set_cons_succ])
     go_cut [79] (fun v79 wc => ∃ (kq : Nat) (x79_70 : Bool), v79 = .bool x79_70 ∧ Aside0 (insolvencylaw33_DocketOnce.j1 kq x11_1 t942 x79_70 t933 t934 t935 t936 t939 = some r) ∧ Aside0 (kq ≤ k1) ∧ Aside0 (Kd.R k52 52 wc w.heap.size (fun k_ => some k_ ≠ (v943 : Value).ownBlock) u11 x11_1) ∧ Aside0 (Kd.R k52 52 wc w.heap.size (fun k_ => some k_ ≠ (u11 : Value).ownBlock) v943 t942) ∧ Aside0 (Kd.R (Kd.int .i64) 3 wc w.heap.size (fun k_ => some k_ ≠ ((.slice Ao82 t936.length co82) : Value).ownBlock) (.slice Ao75 x910003_1.length co75) x910003_1) ∧ Aside0 (Kd.R k50 50 wc w.heap.size (fun k_ => some k_ ≠ ((.slice Ao83 t939.length co83) : Value).ownBlock) (.slice Ao76 x910004_1.length co76) x910004_1) ∧ Aside0 (Kd.R (Kd.int .i64) 3 wc w.heap.size (fun k_ => some k_ ≠ ((.slice Ao75 x910003_1.length co75) : Value).ownBlock) (.slice Ao82 t936.length co82) t936) ∧ Aside0 (Kd.R k50 50 wc w.heap.size (fun k_ => some k_ ≠ ((.slice Ao76 x910004_1.length co76) : Value).ownBlock) (.slice Ao83 t939.length co83) t939) ∧ Aside0 (wc.heap[gb893]? = some (.cells #[.int .u8 a0_0, .int .u8 a0_1] 22 (0, 0))) ∧ Aside0 (wc.heap[gb909]? = some (.cells #[.int .i64 x910000_1, .int .i64 x910001_1, .int .i64 x910002_1, (.slice Ao75 x910003_1.length co75), (.slice Ao76 x910004_1.length co76)] 30 (0, 0))) ∧ Aside0 (wc.heap[gb946]? = some (.cells #[.int .i64 t933, .int .i64 t934, .int .i64 t935, (.slice Ao82 t936.length co82), (.slice Ao83 t939.length co83)] 30 (0, 0))) ∧ Aside0 (Below w.heap.size w wc))
     case first =>
      have H := HC71.out
      clear HC71
      by_cases c84 : t945 = 0
      ·rw [if_pos c84] at H
       have c84b0 : (t945 == 0) = true := beq_iff_eq.mpr c84
       have c84b1 : (t945 != 0) = false := bne_eq_false_iff_eq.mpr c84
       clear c84
       (first | rw [c84b0] | (simp only [i64_w, i32_w]; rw [c84b0]) | skip)
       replace H := Option.bind_eq_some_iff.mp H
       obtain ⟨t947, A850, H⟩ := H
       replace H : (insolvencylaw33_DocketOnce.j1 k1 x11_1 t942 (t947 != 0) t933 t934 t935 t936 t939) = some r := H
       have A85 := Aside0.mk A850
       clear A850
       have H' := Aside0.mk H
       clear H
       have hnb86 := NB946_893.out
       have hnc86 := NB893_946.out
       have hnb87 := NB946_909.out
       have hnc87 := NB909_946.out
       obtain ⟨hcz88_0, hcz88_1, hcz88_2, hcz88_3, hcz88_4⟩ := cells5 BK946
       obtain ⟨hfz88_0, hfz88_1, hfz88_2, hfz88_3, hfz88_4⟩ := frz5 BK946
       go_wp2_with (first | (go_at_call 21; (with_reducible refine (docket_Check.calls k1 t933 t934 t935 _ _ t936 _ _ t939 t947 _ ?side1 ?side2 ?side3 ?side4 A85.out).mono ?_); (case side1 => refine (Kd.R_reads' (e := 3) (base := w.heap.size) (ok := fun k_ => (True ∧ some k_ ≠ (.slice Ao75 x910003_1.length co75 : Value).ownBlock)) (n := t936.length) (c := co82) ?_).2.2; exact (by (with_reducible repeat (first | apply Kd.R_alloc | apply Kd.R_drewN | apply Kd.R_drew)); exact (Kd.R_mono (Kd.R_far (p := ⟨gb946, 4, none⟩) (Kd.R_far (p := ⟨gb946, 3, none⟩) (Kd.R_far (p := ⟨gb946, 2, none⟩) (Kd.R_far (p := ⟨gb946, 1, none⟩) (Kd.R_far (p := ⟨gb946, 0, none⟩) (Kd.R_types HO938.out BK946.out (by decide)) (fun _ hk => hk.2) (.int .i64 t933)) (fun _ hk => hk.2) (.int .i64 t934)) (fun _ hk => hk.2) (.int .i64 t935)) (fun _ hk => hk.2) (.slice Ao82 t936.length co82)) (fun _ hk => hk.2) (.slice Ao83 t939.length co83)) (fun _ h_ => h_.1)))); (case side2 => exact (Kd.R_reads' HO938.out).2.1); (case side3 => refine (Kd.R_reads' (e := 50) (base := w.heap.size) (ok := fun k_ => (True ∧ some k_ ≠ (.slice Ao76 x910004_1.length co76 : Value).ownBlock)) (n := t939.length) (c := co83) ?_).2.2; exact (by (with_reducible repeat (first | apply Kd.R_alloc | apply Kd.R_drewN | apply Kd.R_drew)); exact (Kd.R_mono (Kd.R_far (p := ⟨gb946, 4, none⟩) (Kd.R_far (p := ⟨gb946, 3, none⟩) (Kd.R_far (p := ⟨gb946, 2, none⟩) (Kd.R_far (p := ⟨gb946, 1, none⟩) (Kd.R_far (p := ⟨gb946, 0, none⟩) (Kd.R_types HO941.out BK946.out (by decide)) (fun _ hk => hk.2) (.int .i64 t933)) (fun _ hk => hk.2) (.int .i64 t934)) (fun _ hk => hk.2) (.int .i64 t935)) (fun _ hk => hk.2) (.slice Ao82 t936.length co82)) (fun _ hk => hk.2) (.slice Ao83 t939.length co83)) (fun _ h_ => h_.1)))); (case side4 => exact (Kd.R_reads' HO941.out).2.1); rintro e w89 ⟨rfl, hb⟩; have n0_ := Aside0.mk (Kd.R_below (by (with_reducible repeat (first | apply Kd.R_alloc | apply Kd.R_drewN | apply Kd.R_drew)); exact (Kd.R_mono (Kd.R_far (p := ⟨gb946, 4, none⟩) (Kd.R_far (p := ⟨gb946, 3, none⟩) (Kd.R_far (p := ⟨gb946, 2, none⟩) (Kd.R_far (p := ⟨gb946, 1, none⟩) (Kd.R_far (p := ⟨gb946, 0, none⟩) (Kd.R_types HO_11.out BK946.out (by decide)) (fun _ hk => hk.2) (.int .i64 t933)) (fun _ hk => hk.2) (.int .i64 t934)) (fun _ hk => hk.2) (.int .i64 t935)) (fun _ hk => hk.2) (.slice Ao82 t936.length co82)) (fun _ hk => hk.2) (.slice Ao83 t939.length co83)) (fun _ h_ => h_.1))) hb); have n1_ := Aside0.mk (Kd.R_below (by (with_reducible repeat (first | apply Kd.R_alloc | apply Kd.R_drewN | apply Kd.R_drew)); exact (Kd.R_mono (Kd.R_far (p := ⟨gb946, 4, none⟩) (Kd.R_far (p := ⟨gb946, 3, none⟩) (Kd.R_far (p := ⟨gb946, 2, none⟩) (Kd.R_far (p := ⟨gb946, 1, none⟩) (Kd.R_far (p := ⟨gb946, 0, none⟩) (Kd.R_types HO_12.out BK946.out (by decide)) (fun _ hk => hk.2) (.int .i64 t933)) (fun _ hk => hk.2) (.int .i64 t934)) (fun _ hk => hk.2) (.int .i64 t935)) (fun _ hk => hk.2) (.slice Ao82 t936.length co82)) (fun _ hk => hk.2) (.slice Ao83 t939.length co83)) (fun _ h_ => h_.1))) hb); have n2_ := Aside0.mk (Kd.R_below (by (with_reducible repeat (first | apply Kd.R_alloc | apply Kd.R_drewN | apply Kd.R_drew)); exact (Kd.R_mono (Kd.R_far (p := ⟨gb946, 4, none⟩) (Kd.R_far (p := ⟨gb946, 3, none⟩) (Kd.R_far (p := ⟨gb946, 2, none⟩) (Kd.R_far (p := ⟨gb946, 1, none⟩) (Kd.R_far (p := ⟨gb946, 0, none⟩) (Kd.R_types HO_910003.out BK946.out (by decide)) (fun _ hk => hk.2) (.int .i64 t933)) (fun _ hk => hk.2) (.int .i64 t934)) (fun _ hk => hk.2) (.int .i64 t935)) (fun _ hk => hk.2) (.slice Ao82 t936.length co82)) (fun _ hk => hk.2) (.slice Ao83 t939.length co83)) (fun _ h_ => h_.1))) hb); have n3_ := Aside0.mk (Kd.R_below (by (with_reducible repeat (first | apply Kd.R_alloc | apply Kd.R_drewN | apply Kd.R_drew)); exact (Kd.R_mono (Kd.R_far (p := ⟨gb946, 4, none⟩) (Kd.R_far (p := ⟨gb946, 3, none⟩) (Kd.R_far (p := ⟨gb946, 2, none⟩) (Kd.R_far (p := ⟨gb946, 1, none⟩) (Kd.R_far (p := ⟨gb946, 0, none⟩) (Kd.R_types HO_910004.out BK946.out (by decide)) (fun _ hk => hk.2) (.int .i64 t933)) (fun _ hk => hk.2) (.int .i64 t934)) (fun _ hk => hk.2) (.int .i64 t935)) (fun _ hk => hk.2) (.slice Ao82 t936.length co82)) (fun _ hk => hk.2) (.slice Ao83 t939.length co83)) (fun _ h_ => h_.1))) hb); have n4_ := Aside0.mk (Kd.R_below (by (with_reducible repeat (first | apply Kd.R_alloc | apply Kd.R_drewN | apply Kd.R_drew)); exact (Kd.R_mono (Kd.R_far (p := ⟨gb946, 4, none⟩) (Kd.R_far (p := ⟨gb946, 3, none⟩) (Kd.R_far (p := ⟨gb946, 2, none⟩) (Kd.R_far (p := ⟨gb946, 1, none⟩) (Kd.R_far (p := ⟨gb946, 0, none⟩) (Kd.R_types HO938.out BK946.out (by decide)) (fun _ hk => hk.2) (.int .i64 t933)) (fun _ hk => hk.2) (.int .i64 t934)) (fun _ hk => hk.2) (.int .i64 t935)) (fun _ hk => hk.2) (.slice Ao82 t936.length co82)) (fun _ hk => hk.2) (.slice Ao83 t939.length co83)) (fun _ h_ => h_.1))) hb); have n5_ := Aside0.mk (Kd.R_below (by (with_reducible repeat (first | apply Kd.R_alloc | apply Kd.R_drewN | apply Kd.R_drew)); exact (Kd.R_mono (Kd.R_far (p := ⟨gb946, 4, none⟩) (Kd.R_far (p := ⟨gb946, 3, none⟩) (Kd.R_far (p := ⟨gb946, 2, none⟩) (Kd.R_far (p := ⟨gb946, 1, none⟩) (Kd.R_far (p := ⟨gb946, 0, none⟩) (Kd.R_types HO941.out BK946.out (by decide)) (fun _ hk => hk.2) (.int .i64 t933)) (fun _ hk => hk.2) (.int .i64 t934)) (fun _ hk => hk.2) (.int .i64 t935)) (fun _ hk => hk.2) (.slice Ao82 t936.length co82)) (fun _ hk => hk.2) (.slice Ao83 t939.length co83)) (fun _ h_ => h_.1))) hb); have n6_ := Aside0.mk (Kd.R_below (by (with_reducible repeat (first | apply Kd.R_alloc | apply Kd.R_drewN | apply Kd.R_drew)); exact (Kd.R_mono (Kd.R_far (p := ⟨gb946, 4, none⟩) (Kd.R_far (p := ⟨gb946, 3, none⟩) (Kd.R_far (p := ⟨gb946, 2, none⟩) (Kd.R_far (p := ⟨gb946, 1, none⟩) (Kd.R_far (p := ⟨gb946, 0, none⟩) (Kd.R_types HO944.out BK946.out (by decide)) (fun _ hk => hk.2) (.int .i64 t933)) (fun _ hk => hk.2) (.int .i64 t934)) (fun _ hk => hk.2) (.int .i64 t935)) (fun _ hk => hk.2) (.slice Ao82 t936.length co82)) (fun _ hk => hk.2) (.slice Ao83 t939.length co83)) (fun _ h_ => h_.1))) hb); have n7_ := Aside0.mk (blk_below (g := gb893) (o := .cells #[.int .u8 a0_0, .int .u8 a0_1] 22 (0, 0)) (by (with_reducible repeat (first|refine bN ?_ _|refine bD ?_|refine bA ?_ _)); refine blk_far ?_ NB893_946.out _; (with_reducible repeat (first|refine bN ?_ _|refine bD ?_|refine bA ?_ _)); refine blk_far ?_ NB893_946.out _; (with_reducible repeat (first|refine bN ?_ _|refine bD ?_|refine bA ?_ _)); refine blk_far ?_ NB893_946.out _; (with_reducible repeat (first|refine bN ?_ _|refine bD ?_|refine bA ?_ _)); refine blk_far ?_ NB893_946.out _; (with_reducible repeat (first|refine bN ?_ _|refine bD ?_|refine bA ?_ _)); refine blk_far ?_ NB893_946.out _; (with_reducible repeat (first|refine bN ?_ _|refine bD ?_|refine bA ?_ _)); exact BK893.out) hb); have n8_ := Aside0.mk (blk_below (g := gb909) (o := .cells #[.int .i64 x910000_1, .int .i64 x910001_1, .int .i64 x910002_1, .slice Ao75 x910003_1.length co75, .slice Ao76 x910004_1.length co76] 30 (0, 0)) (by (with_reducible repeat (first|refine bN ?_ _|refine bD ?_|refine bA ?_ _)); refine blk_far ?_ NB909_946.out _; (with_reducible repeat (first|refine bN ?_ _|refine bD ?_|refine bA ?_ _)); refine blk_far ?_ NB909_946.out _; (with_reducible repeat (first|refine bN ?_ _|refine bD ?_|refine bA ?_ _)); refine blk_far ?_ NB909_946.out _; (with_reducible repeat (first|refine bN ?_ _|refine bD ?_|refine bA ?_ _)); refine blk_far ?_ NB909_946.out _; (with_reducible repeat (first|refine bN ?_ _|refine bD ?_|refine bA ?_ _)); refine blk_far ?_ NB909_946.out _; (with_reducible repeat (first|refine bN ?_ _|refine bD ?_|refine bA ?_ _)); exact BK909.out) hb); have n9_ := Aside0.mk (blk_below (g := gb946) (o := .cells #[.int .i64 t933, .int .i64 t934, .int .i64 t935, .slice Ao82 t936.length co82, .slice Ao83 t939.length co83] 30 (0, 0)) (by (with_reducible repeat (first|refine bN ?_ _|refine bD ?_|refine bA ?_ _)); refine blk_put (cs := #[.int .i64 t933, .int .i64 t934, .int .i64 t935, .slice Ao82 t936.length co82, .slice none 0 0]) ?_ 4 _ rfl; (with_reducible repeat (first|refine bN ?_ _|refine bD ?_|refine bA ?_ _)); refine blk_put (cs := #[.int .i64 t933, .int .i64 t934, .int .i64 t935, .slice none 0 0, .slice none 0 0]) ?_ 3 _ rfl; (with_reducible repeat (first|refine bN ?_ _|refine bD ?_|refine bA ?_ _)); refine blk_put (cs := #[.int .i64 t933, .int .i64 t934, .int .i64 0, .slice none 0 0, .slice none 0 0]) ?_ 2 _ rfl; (with_reducible repeat (first|refine bN ?_ _|refine bD ?_|refine bA ?_ _)); refine blk_put (cs := #[.int .i64 t933, .int .i64 0, .int .i64 0, .slice none 0 0, .slice none 0 0]) ?_ 1 _ rfl; (with_reducible repeat (first|refine bN ?_ _|refine bD ?_|refine bA ?_ _)); refine blk_put (cs := #[.int .i64 0, .int .i64 0, .int .i64 0, .slice none 0 0, .slice none 0 0]) ?_ 0 _ rfl; (with_reducible repeat (first|refine bN ?_ _|refine bD ?_|refine bA ?_ _)); exact BK946.out) hb); have n10_ := Aside0.mk (below_step (pB HB) hb); clear HO_11; clear HO_12; clear HO_910003; clear HO_910004; clear HO938; clear HO941; clear HO944; clear BK893; clear BK909; clear BK946; clear HB; have HO_11 := n0_; have HO_12 := n1_; have HO_910003 := n2_; have HO_910004 := n3_; have HO938 := n4_; have HO941 := n5_; have HO944 := n6_; have BK893 := n7_; have BK909 := n8_; have BK946 := n9_; have HB := n10_; clear n0_ n1_ n2_ n3_ n4_ n5_ n6_ n7_ n8_ n9_ n10_; (try clear hb); (try clear hb2); (try clear hk); (try clear hi)))
       go_meet
       case rel => exact ⟨_, ((t947 != 0)), (by first | rfl | (simp; done) | (simp [*]; done)), H', ⟨by have := HK1.out; first | omega | exact Nat.le_refl _⟩, ⟨by (with_reducible repeat (first | apply Kd.R_alloc | apply Kd.R_drewN | apply Kd.R_drew)); exact Kd.R_mono HO_11.out (fun _ hk => hk.2)⟩, ⟨by (with_reducible repeat (first | apply Kd.R_alloc | apply Kd.R_drewN | apply Kd.R_drew)); exact Kd.R_mono HO944.out (fun _ hk => hk.2)⟩, ⟨by (with_reducible repeat (first | apply Kd.R_alloc | apply Kd.R_drewN | apply Kd.R_drew)); exact Kd.R_mono HO_910003.out (fun _ hk => hk.2)⟩, ⟨by (with_reducible repeat (first | apply Kd.R_alloc | apply Kd.R_drewN | apply Kd.R_drew)); exact Kd.R_mono HO_910004.out (fun _ hk => hk.2)⟩, ⟨by (with_reducible repeat (first | apply Kd.R_alloc | apply Kd.R_drewN | apply Kd.R_drew)); exact Kd.R_mono HO938.out (fun _ hk => hk.2)⟩, ⟨by (with_reducible repeat (first | apply Kd.R_alloc | apply Kd.R_drewN | apply Kd.R_drew)); exact Kd.R_mono HO941.out (fun _ hk => hk.2)⟩, ⟨by (with_reducible repeat (first|refine bN ?_ _|refine bD ?_|refine bA ?_ _)); exact BK893.out⟩, ⟨by (with_reducible repeat (first|refine bN ?_ _|refine bD ?_|refine bA ?_ _)); exact BK909.out⟩, ⟨by (with_reducible repeat (first|refine bN ?_ _|refine bD ?_|refine bA ?_ _)); exact BK946.out⟩, ⟨pB HB⟩⟩
      ·rw [if_neg c84] at H
       have c84b0 : (t945 == 0) = false := beq_eq_false_iff_ne.mpr c84
       have c84b1 : (t945 != 0) = true := bne_iff_ne.mpr c84
       (first | rw [c84b0] | (simp only [i64_w, i32_w]; rw [c84b0]) | skip)
       have H' := Aside0.mk H
       clear H
       go_wp2
       go_meet
       case rel => exact ⟨_, (true), (by first | rfl | (simp; done) | (simp [*]; done)), H', ⟨by have := HK1.out; first | omega | exact Nat.le_refl _⟩, ⟨by (with_reducible repeat (first | apply Kd.R_alloc | apply Kd.R_drewN | apply Kd.R_drew)); exact Kd.R_mono (Kd.R_far (p := ⟨gb946, 4, none⟩) (Kd.R_far (p := ⟨gb946, 3, none⟩) (Kd.R_far (p := ⟨gb946, 2, none⟩) (Kd.R_far (p := ⟨gb946, 1, none⟩) (Kd.R_far (p := ⟨gb946, 0, none⟩) (Kd.R_types HO_11.out BK946.out (by decide)) (fun _ hk => hk.2) (.int .i64 t933)) (fun _ hk => hk.2) (.int .i64 t934)) (fun _ hk => hk.2) (.int .i64 t935)) (fun _ hk => hk.2) (.slice Ao82 t936.length co82)) (fun _ hk => hk.2) (.slice Ao83 t939.length co83)) (fun _ hk => hk.1.2)⟩, ⟨by (with_reducible repeat (first | apply Kd.R_alloc | apply Kd.R_drewN | apply Kd.R_drew)); exact Kd.R_mono (Kd.R_far (p := ⟨gb946, 4, none⟩) (Kd.R_far (p := ⟨gb946, 3, none⟩) (Kd.R_far (p := ⟨gb946, 2, none⟩) (Kd.R_far (p := ⟨gb946, 1, none⟩) (Kd.R_far (p := ⟨gb946, 0, none⟩) (Kd.R_types HO944.out BK946.out (by decide)) (fun _ hk => hk.2) (.int .i64 t933)) (fun _ hk => hk.2) (.int .i64 t934)) (fun _ hk => hk.2) (.int .i64 t935)) (fun _ hk => hk.2) (.slice Ao82 t936.length co82)) (fun _ hk => hk.2) (.slice Ao83 t939.length co83)) (fun _ hk => hk.1.2)⟩, ⟨by (with_reducible repeat (first | apply Kd.R_alloc | apply Kd.R_drewN | apply Kd.R_drew)); exact Kd.R_mono (Kd.R_far (p := ⟨gb946, 4, none⟩) (Kd.R_far (p := ⟨gb946, 3, none⟩) (Kd.R_far (p := ⟨gb946, 2, none⟩) (Kd.R_far (p := ⟨gb946, 1, none⟩) (Kd.R_far (p := ⟨gb946, 0, none⟩) (Kd.R_types HO_910003.out BK946.out (by decide)) (fun _ hk => hk.2) (.int .i64 t933)) (fun _ hk => hk.2) (.int .i64 t934)) (fun _ hk => hk.2) (.int .i64 t935)) (fun _ hk => hk.2) (.slice Ao82 t936.length co82)) (fun _ hk => hk.2) (.slice Ao83 t939.length co83)) (fun _ hk => hk.1.2)⟩, ⟨by (with_reducible repeat (first | apply Kd.R_alloc | apply Kd.R_drewN | apply Kd.R_drew)); exact Kd.R_mono (Kd.R_far (p := ⟨gb946, 4, none⟩) (Kd.R_far (p := ⟨gb946, 3, none⟩) (Kd.R_far (p := ⟨gb946, 2, none⟩) (Kd.R_far (p := ⟨gb946, 1, none⟩) (Kd.R_far (p := ⟨gb946, 0, none⟩) (Kd.R_types HO_910004.out BK946.out (by decide)) (fun _ hk => hk.2) (.int .i64 t933)) (fun _ hk => hk.2) (.int .i64 t934)) (fun _ hk => hk.2) (.int .i64 t935)) (fun _ hk => hk.2) (.slice Ao82 t936.length co82)) (fun _ hk => hk.2) (.slice Ao83 t939.length co83)) (fun _ hk => hk.1.2)⟩, ⟨by (with_reducible repeat (first | apply Kd.R_alloc | apply Kd.R_drewN | apply Kd.R_drew)); exact Kd.R_mono (Kd.R_far (p := ⟨gb946, 4, none⟩) (Kd.R_far (p := ⟨gb946, 3, none⟩) (Kd.R_far (p := ⟨gb946, 2, none⟩) (Kd.R_far (p := ⟨gb946, 1, none⟩) (Kd.R_far (p := ⟨gb946, 0, none⟩) (Kd.R_types HO938.out BK946.out (by decide)) (fun _ hk => hk.2) (.int .i64 t933)) (fun _ hk => hk.2) (.int .i64 t934)) (fun _ hk => hk.2) (.int .i64 t935)) (fun _ hk => hk.2) (.slice Ao82 t936.length co82)) (fun _ hk => hk.2) (.slice Ao83 t939.length co83)) (fun _ hk => hk.1.2)⟩, ⟨by (with_reducible repeat (first | apply Kd.R_alloc | apply Kd.R_drewN | apply Kd.R_drew)); exact Kd.R_mono (Kd.R_far (p := ⟨gb946, 4, none⟩) (Kd.R_far (p := ⟨gb946, 3, none⟩) (Kd.R_far (p := ⟨gb946, 2, none⟩) (Kd.R_far (p := ⟨gb946, 1, none⟩) (Kd.R_far (p := ⟨gb946, 0, none⟩) (Kd.R_types HO941.out BK946.out (by decide)) (fun _ hk => hk.2) (.int .i64 t933)) (fun _ hk => hk.2) (.int .i64 t934)) (fun _ hk => hk.2) (.int .i64 t935)) (fun _ hk => hk.2) (.slice Ao82 t936.length co82)) (fun _ hk => hk.2) (.slice Ao83 t939.length co83)) (fun _ hk => hk.1.2)⟩, ⟨by (with_reducible repeat (first|refine bN ?_ _|refine bD ?_|refine bA ?_ _)); refine blk_far ?_ NB893_946.out _; (with_reducible repeat (first|refine bN ?_ _|refine bD ?_|refine bA ?_ _)); refine blk_far ?_ NB893_946.out _; (with_reducible repeat (first|refine bN ?_ _|refine bD ?_|refine bA ?_ _)); refine blk_far ?_ NB893_946.out _; (with_reducible repeat (first|refine bN ?_ _|refine bD ?_|refine bA ?_ _)); refine blk_far ?_ NB893_946.out _; (with_reducible repeat (first|refine bN ?_ _|refine bD ?_|refine bA ?_ _)); refine blk_far ?_ NB893_946.out _; (with_reducible repeat (first|refine bN ?_ _|refine bD ?_|refine bA ?_ _)); exact BK893.out⟩, ⟨by (with_reducible repeat (first|refine bN ?_ _|refine bD ?_|refine bA ?_ _)); refine blk_far ?_ NB909_946.out _; (with_reducible repeat (first|refine bN ?_ _|refine bD ?_|refine bA ?_ _)); refine blk_far ?_ NB909_946.out _; (with_reducible repeat (first|refine bN ?_ _|refine bD ?_|refine bA ?_ _)); refine blk_far ?_ NB909_946.out _; (with_reducible repeat (first|refine bN ?_ _|refine bD ?_|refine bA ?_ _)); refine blk_far ?_ NB909_946.out _; (with_reducible repeat (first|refine bN ?_ _|refine bD ?_|refine bA ?_ _)); refine blk_far ?_ NB909_946.out _; (with_reducible repeat (first|refine bN ?_ _|refine bD ?_|refine bA ?_ _)); exact BK909.out⟩, ⟨by (with_reducible repeat (first|refine bN ?_ _|refine bD ?_|refine bA ?_ _)); refine blk_put (cs := #[.int .i64 t933, .int .i64 t934, .int .i64 t935, .slice Ao82 t936.length co82, .slice none 0 0]) ?_ 4 _ rfl; (with_reducible repeat (first|refine bN ?_ _|refine bD ?_|refine bA ?_ _)); refine blk_put (cs := #[.int .i64 t933, .int .i64 t934, .int .i64 t935, .slice none 0 0, .slice none 0 0]) ?_ 3 _ rfl; (with_reducible repeat (first|refine bN ?_ _|refine bD ?_|refine bA ?_ _)); refine blk_put (cs := #[.int .i64 t933, .int .i64 t934, .int .i64 0, .slice none 0 0, .slice none 0 0]) ?_ 2 _ rfl; (with_reducible repeat (first|refine bN ?_ _|refine bD ?_|refine bA ?_ _)); refine blk_put (cs := #[.int .i64 t933, .int .i64 0, .int .i64 0, .slice none 0 0, .slice none 0 0]) ?_ 1 _ rfl; (with_reducible repeat (first|refine bN ?_ _|refine bD ?_|refine bA ?_ _)); refine blk_put (cs := #[.int .i64 0, .int .i64 0, .int .i64 0, .slice none 0 0, .slice none 0 0]) ?_ 0 _ rfl; (with_reducible repeat (first|refine bN ?_ _|refine bD ?_|refine bA ?_ _)); exact BK946.out⟩, ⟨pB HB⟩⟩
     case rest =>
      clear HC71
      try clear c1
      try clear c2
      try clear p2
      try clear c5
      try clear c6
      try clear p6
      try clear c7
      try clear c8
      try clear p9
      try clear q9
      try clear hx9
      try clear c13
      try clear c20
      try clear c20b0
      try clear c21
      try clear c23
      try clear c23b0
      try clear c23b1
      try clear c24
      try clear c26
      try clear c51
      try clear c51b0
      try clear c51b1
      try clear p64
      try clear c66
      try clear c67
      try clear c73
      try clear c79
      try clear c80
      try clear c84
      try clear c84b0
      try clear c84b1
      try clear c86
      try clear c87
      try clear hx913_0
      try clear hx913_1
      try clear hx913_2
      try clear hx913_3
      try clear p913
      try clear q913
      obtain ⟨kq, x79_70, rfl, HA, HJ70, HO_11, HO_18, HO_910003, HO_910004, HO_947003, HO_947004, BK893, BK909, BK946, HB⟩ := hcut
      cases kq with
      | zero => exact absurd HA.out (by simp [insolvencylaw33_DocketOnce.j1])
      | succ kj70 =>
       have H := HA.out
       clear HA
       simp only [insolvencylaw33_DocketOnce.j1] at H
       by_cases c90 : x79_70 = true
       ·subst c90
        have H1 : (none) = some r := by rw [if_pos rfl] at H; exact H
        clear H
        have H := H1
        clear H1
        exact absurd H (by simp)
       ·replace c90 := Bool.eq_false_iff.mpr c90
        subst c90
        have H1 : (if x11_1.length + t942.length < 5864062014805 then (insolvencylaw33_DocketOnce.l1 kj70 (x11_1 ++ t942) 0 0 t933 t934 t935 t936 t939) else (none)) = some r := by rw [if_neg (show ¬ (false = true) by decide)] at H; exact H
        clear H
        have H := H1
        clear H1
        by_cases c91 : x11_1.length + t942.length < 5864062014805
        ·rw [if_pos c91] at H
         have LMc91 := Aside0.mk c91
         clear c91
         obtain ⟨y948, hy948⟩ : ∃ y_ : List (S52), y_ = (x11_1 ++ t942) := ⟨_, rfl⟩
         replace H : (insolvencylaw33_DocketOnce.l1 kj70 y948 0 0 t933 t934 t935 t936 t939) = some r := by first | (rw [hy948]; with_reducible exact H) | (have H2_ := (Option.bind_some _ _).symm.trans H; rw [hy948]; with_reducible exact H2_) | (have H2_ := (Option.bind_some _ _).symm.trans H; with_reducible exact H2_) | with_reducible exact H | (rw [hy948]; exact H) | exact H
         have Ny948 := Aside0.mk hy948
         clear hy948
         have H' := Aside0.mk H
         clear H
         obtain ⟨Ao93, co93, eo93⟩ := Kd.R_slice HO_18.out
         subst eo93
         go_wp2_with (first | ((with_reducible refine gate_builtin (b := .append) (xs := #[.tmp 80, .tmp 81]) rfl ?_); (try (refine gate_guard (by rfl) ?_; dsimp only)); at_builtin; refine Kd.R_append_rows k52 (w0 := w) w.heap.size rfl (.tmp 80) (.tmp 81) 32 52 (.agg #[(.int .i64 0), (.int .i64 0), (.int .i64 0)]) 24 rfl Try.underlying32 info52 rfl (by decide) (by omega) u11 x11_1 t942 _ _ _ (fun k_ => some k_ ≠ (.slice Ao93 t942.length co93 : Value).ownBlock) (fun _ => False) rfl rfl ?aO ?aR (fun _ _ h => h) (fun _ h => h.elim) ?aF ?aB ?aS ?aL ?_; (case aR => repeat (first | exact (Kd.R_reads' HO_18.out).2.2 | (with_reducible refine Kd.C_alloc ?_ _) | (with_reducible refine Kd.C_drewN ?_ _) | (with_reducible refine Kd.C_drew ?_))); (case aB => exact (pB HB)); (case aF => exact (fun k_ hk => Kd.fresh' (Kd.R_lt (by (with_reducible repeat (first | apply Kd.R_alloc | apply Kd.R_drewN | apply Kd.R_drew)); exact HO_18.out)) k_ hk)); (case aO => exact (by (with_reducible repeat (first | apply Kd.R_alloc | apply Kd.R_drewN | apply Kd.R_drew)); exact HO_11.out)); (case aS => exact (below_size (pB HB))); (case aL => have := LMc91.out; omega); intro v949 w92 ho hb hg hat; rw [← Ny948.out] at ho; have n0_ := Aside0.mk (Kd.R_after (ok := (fun _ => True)) (by (with_reducible repeat (first | apply Kd.R_alloc | apply Kd.R_drewN | apply Kd.R_drew)); exact Kd.R_mono HO_18.out (fun _ hk => ⟨trivial, hk⟩)) hg hat); have n1_ := Aside0.mk (Kd.R_over' (by (with_reducible repeat (first | apply Kd.R_alloc | apply Kd.R_drewN | apply Kd.R_drew)); exact HO_910003.out) (Kd.R_typed (by (with_reducible repeat (first | apply Kd.R_alloc | apply Kd.R_drewN | apply Kd.R_drew)); exact HO_11.out)) (by decide) hg); have n2_ := Aside0.mk (Kd.R_over' (by (with_reducible repeat (first | apply Kd.R_alloc | apply Kd.R_drewN | apply Kd.R_drew)); exact HO_910004.out) (Kd.R_typed (by (with_reducible repeat (first | apply Kd.R_alloc | apply Kd.R_drewN | apply Kd.R_drew)); exact HO_11.out)) (by decide) hg); have n3_ := Aside0.mk (Kd.R_over' (by (with_reducible repeat (first | apply Kd.R_alloc | apply Kd.R_drewN | apply Kd.R_drew)); exact HO_947003.out) (Kd.R_typed (by (with_reducible repeat (first | apply Kd.R_alloc | apply Kd.R_drewN | apply Kd.R_drew)); exact HO_11.out)) (by decide) hg); have n4_ := Aside0.mk (Kd.R_over' (by (with_reducible repeat (first | apply Kd.R_alloc | apply Kd.R_drewN | apply Kd.R_drew)); exact HO_947004.out) (Kd.R_typed (by (with_reducible repeat (first | apply Kd.R_alloc | apply Kd.R_drewN | apply Kd.R_drew)); exact HO_11.out)) (by decide) hg); have n5_ := Aside0.mk (blk_grown (g := gb893) (o := .cells #[.int .u8 a0_0, .int .u8 a0_1] 22 (0, 0)) (by (with_reducible repeat (first|refine bN ?_ _|refine bD ?_|refine bA ?_ _)); exact BK893.out) hg (Kd.R_ne HO_11.out BK893.out (by decide))); have n6_ := Aside0.mk (blk_grown (g := gb909) (o := .cells #[.int .i64 x910000_1, .int .i64 x910001_1, .int .i64 x910002_1, .slice Ao75 x910003_1.length co75, .slice Ao76 x910004_1.length co76] 30 (0, 0)) (by (with_reducible repeat (first|refine bN ?_ _|refine bD ?_|refine bA ?_ _)); exact BK909.out) hg (Kd.R_ne HO_11.out BK909.out (by decide))); have n7_ := Aside0.mk (blk_grown (g := gb946) (o := .cells #[.int .i64 t933, .int .i64 t934, .int .i64 t935, .slice Ao82 t936.length co82, .slice Ao83 t939.length co83] 30 (0, 0)) (by (with_reducible repeat (first|refine bN ?_ _|refine bD ?_|refine bA ?_ _)); exact BK946.out) hg (Kd.R_ne HO_11.out BK946.out (by decide))); have n8_ := Aside0.mk (hb); have n9_ := Aside0.mk (ho); clear HO_18; clear HO_910003; clear HO_910004; clear HO_947003; clear HO_947004; clear BK893; clear BK909; clear BK946; clear HB; clear HO_11; have HO_18 := n0_; have HO_910003 := n1_; have HO_910004 := n2_; have HO_947003 := n3_; have HO_947004 := n4_; have BK893 := n5_; have BK909 := n6_; have BK946 := n7_; have HB := n8_; have HO950 := n9_; clear n0_ n1_ n2_ n3_ n4_ n5_ n6_ n7_ n8_ n9_; clear ho hb hg hat))
         go_loopg [20, 21] kj70 (fun kq v20 v21 w' => ∃ (x20_3 : Int) (x21_3 : Int), v20 = .int .i64 x20_3 ∧ v21 = .int .i64 x21_3 ∧ Aside0 (insolvencylaw33_DocketOnce.l1 kq y948 x20_3 x21_3 t933 t934 t935 t936 t939 = some r) ∧ Aside0 (kq ≤ kj70) ∧ Aside0 (Kd.R k52 52 w' w.heap.size (fun _ => True) v949 y948) ∧ Aside0 (Kd.R (Kd.int .i64) 3 w' w.heap.size (fun k_ => some k_ ≠ ((.slice Ao82 t936.length co82) : Value).ownBlock) (.slice Ao75 x910003_1.length co75) x910003_1) ∧ Aside0 (Kd.R k50 50 w' w.heap.size (fun k_ => some k_ ≠ ((.slice Ao83 t939.length co83) : Value).ownBlock) (.slice Ao76 x910004_1.length co76) x910004_1) ∧ Aside0 (Kd.R (Kd.int .i64) 3 w' w.heap.size (fun k_ => some k_ ≠ ((.slice Ao75 x910003_1.length co75) : Value).ownBlock) (.slice Ao82 t936.length co82) t936) ∧ Aside0 (Kd.R k50 50 w' w.heap.size (fun k_ => some k_ ≠ ((.slice Ao76 x910004_1.length co76) : Value).ownBlock) (.slice Ao83 t939.length co83) t939) ∧ Aside0 (w'.heap[gb893]? = some (.cells #[.int .u8 a0_0, .int .u8 a0_1] 22 (0, 0))) ∧ Aside0 (w'.heap[gb909]? = some (.cells #[.int .i64 x910000_1, .int .i64 x910001_1, .int .i64 x910002_1, (.slice Ao75 x910003_1.length co75), (.slice Ao76 x910004_1.length co76)] 30 (0, 0))) ∧ Aside0 (w'.heap[gb946]? = some (.cells #[.int .i64 t933, .int .i64 t934, .int .i64 t935, (.slice Ao82 t936.length co82), (.slice Ao83 t939.length co83)] 30 (0, 0))) ∧ Aside0 (Below w.heap.size w w'))
         case atStart => exact ⟨(0), (0), (by first | rfl | (simp; done) | (simp [*]; done)), (by first | rfl | (simp; done) | (simp [*]; done)), H', ⟨Nat.le_refl _⟩, ⟨by (with_reducible repeat (first | apply Kd.R_alloc | apply Kd.R_drewN | apply Kd.R_drew)); exact Kd.R_mono HO950.out (fun _ hk => trivial)⟩, ⟨by (with_reducible repeat (first | apply Kd.R_alloc | apply Kd.R_drewN | apply Kd.R_drew)); exact HO_910003.out⟩, ⟨by (with_reducible repeat (first | apply Kd.R_alloc | apply Kd.R_drewN | apply Kd.R_drew)); exact HO_910004.out⟩, ⟨by (with_reducible repeat (first | apply Kd.R_alloc | apply Kd.R_drewN | apply Kd.R_drew)); exact HO_947003.out⟩, ⟨by (with_reducible repeat (first | apply Kd.R_alloc | apply Kd.R_drewN | apply Kd.R_drew)); exact HO_947004.out⟩, ⟨by (with_reducible repeat (first|refine bN ?_ _|refine bD ?_|refine bA ?_ _)); exact BK893.out⟩, ⟨by (with_reducible repeat (first|refine bN ?_ _|refine bD ?_|refine bA ?_ _)); exact BK909.out⟩, ⟨by (with_reducible repeat (first|refine bN ?_ _|refine bD ?_|refine bA ?_ _)); exact BK946.out⟩, ⟨pB HB⟩⟩
         case round =>
          clear H'
          try clear c1
          try clear c2
          try clear p2
          try clear c5
          try clear c6
          try clear p6
          try clear c7
          try clear c8
          try clear c9
          try clear p9
          try clear q9
          try clear hx9
          try clear c13
          try clear c20
          try clear c20b0
          try clear c21
          try clear c23
          try clear c23b0
          try clear c23b1
          try clear c24
          try clear c26
          try clear c51
          try clear c51b0
          try clear c51b1
          try clear p64
          try clear c66
          try clear c67
          try clear c73
          try clear c79
          try clear c80
          try clear c84
          try clear c84b0
          try clear c84b1
          try clear c86
          try clear c87
          try clear c90
          try clear c91
          try clear p91
          try clear q91
          try clear hx91
          try clear hx913_0
          try clear hx913_1
          try clear hx913_2
          try clear hx913_3
          try clear p2
          try clear p6
          try clear p64
          try clear p9
          try clear p913
          try clear q9
          try clear q913
          obtain ⟨x20_3, x21_3, rfl, rfl, HA, HK3, HO_11, HO_910003, HO_910004, HO_947003, HO_947004, BK893, BK909, BK946, HB⟩ := hrel
          cases gk with
          | zero => exact absurd HA.out (by simp [insolvencylaw33_DocketOnce.l1])
          | succ k3 =>
           have H := HA.out
           clear HA
           simp only [insolvencylaw33_DocketOnce.l1] at H
           by_cases c94 : x21_3 < (t939.length : Int)
           ·rw [if_pos c94] at H
            have c94b0 : decide (x21_3 < (t939.length : Int)) = true := decide_eq_true c94
            clear c94
            by_cases c95 : 0 ≤ x21_3
            ·rw [if_pos c95] at H
             have c95b0 : decide (0 ≤ x21_3) = true := decide_eq_true c95
             clear c95
             have H' := Aside0.mk H
             clear H
             have hnb96 := NB946_893.out
             have hnc96 := NB893_946.out
             have hnb97 := NB946_909.out
             have hnc97 := NB909_946.out
             obtain ⟨hcz98_0, hcz98_1, hcz98_2, hcz98_3, hcz98_4⟩ := cells5 BK946
             obtain ⟨hfz98_0, hfz98_1, hfz98_2, hfz98_3, hfz98_4⟩ := frz5 BK946
             have p952 : 0 ≤ (x21_3 : Int) := of_decide_eq_true (by assumption)
             have q952 : x21_3 < (t939.length : Int) := of_decide_eq_true (by assumption)
             obtain ⟨Aq40, cq40, eq40⟩ := Kd.R_slice HO_947004.out
             (first | subst eq40 | clear eq40)
             obtain ⟨ad952, e952, hx952_0, hx952_1, hx952_2, hx952_3, hx952_4⟩ := at_T50 (Kd.R_reads' HO_947004.out).2.2 x21_3 p952 q952
             cases e952
             replace p952 := eq_true p952
             replace q952 := eq_true q952
             go_wp2_with (first | ((with_reducible refine gate_dst (N := 22) rfl ?_); (try (refine gate_guard (by rfl) ?_; dsimp only)); refine box_event ?hg (N := 22) ?hd (cs := #[.int .i64 0, .int .i64 0, .int .i64 0, .int .i64 0, .bool false]) (t := 50) ?hr ?_; (case hd => rfl); (case hg => rfl); (case hr => first | (go_simp; done) | (go_simp; rfl)); intro gb953 hg w99 hbox hb; have n0_ := rB HO_11 hb; have n1_ := rB HO_910003 hb; have n2_ := Aside0.mk (Kd.R_below (Kd.R_elderB (by (with_reducible repeat (first | apply Kd.R_alloc | apply Kd.R_drewN | apply Kd.R_drew)); exact HO_910004.out) gb953 (Nat.le_of_eq hg.symm)) hb); have n3_ := rB HO_947003 hb; have n4_ := Aside0.mk (Kd.R_below (Kd.R_elderB (by (with_reducible repeat (first | apply Kd.R_alloc | apply Kd.R_drewN | apply Kd.R_drew)); exact HO_947004.out) gb953 (Nat.le_of_eq hg.symm)) hb); have n5_ := bB BK893 hb; have n6_ := bB BK909 hb; have n7_ := bB BK946 hb; have n8_ := Aside0.mk (below_step (pB HB) hb); have n9_ := Aside0.mk (hbox); have n10_ := Aside0.mk ((by rw [hg]; exact (below_size (pB HB)) : w.heap.size ≤ gb953)); have n11_ := Aside0.mk ((by rw [hg]; exact (below_size (pB HB)) : w.heap.size ≤ gb953)); have n12_ := Aside0.mk ((by rw [hg]; exact Nat.ne_of_lt (blk_lt (g := gb893) (o := .cells #[.int .u8 a0_0, .int .u8 a0_1] 22 (0, 0)) (by (with_reducible repeat (first|refine bN ?_ _|refine bD ?_|refine bA ?_ _)); exact BK893.out)) : gb893 ≠ gb953)); have n13_ := Aside0.mk ((by rw [hg]; exact Nat.ne_of_gt (blk_lt (g := gb893) (o := .cells #[.int .u8 a0_0, .int .u8 a0_1] 22 (0, 0)) (by (with_reducible repeat (first|refine bN ?_ _|refine bD ?_|refine bA ?_ _)); exact BK893.out)) : gb953 ≠ gb893)); have n14_ := Aside0.mk ((by rw [hg]; exact Nat.ne_of_lt (blk_lt (g := gb909) (o := .cells #[.int .i64 x910000_1, .int .i64 x910001_1, .int .i64 x910002_1, .slice Ao75 x910003_1.length co75, .slice Ao76 x910004_1.length co76] 30 (0, 0)) (by (with_reducible repeat (first|refine bN ?_ _|refine bD ?_|refine bA ?_ _)); exact BK909.out)) : gb909 ≠ gb953)); have n15_ := Aside0.mk ((by rw [hg]; exact Nat.ne_of_gt (blk_lt (g := gb909) (o := .cells #[.int .i64 x910000_1, .int .i64 x910001_1, .int .i64 x910002_1, .slice Ao75 x910003_1.length co75, .slice Ao76 x910004_1.length co76] 30 (0, 0)) (by (with_reducible repeat (first|refine bN ?_ _|refine bD ?_|refine bA ?_ _)); exact BK909.out)) : gb953 ≠ gb909)); have n16_ := Aside0.mk ((by rw [hg]; exact Nat.ne_of_lt (blk_lt (g := gb946) (o := .cells #[.int .i64 t933, .int .i64 t934, .int .i64 t935, .slice Ao82 t936.length co82, .slice (some ad952) t939.length co83] 30 (0, 0)) (by (with_reducible repeat (first|refine bN ?_ _|refine bD ?_|refine bA ?_ _)); exact BK946.out)) : gb946 ≠ gb953)); have n17_ := Aside0.mk ((by rw [hg]; exact Nat.ne_of_gt (blk_lt (g := gb946) (o := .cells #[.int .i64 t933, .int .i64 t934, .int .i64 t935, .slice Ao82 t936.length co82, .slice (some ad952) t939.length co83] 30 (0, 0)) (by (with_reducible repeat (first|refine bN ?_ _|refine bD ?_|refine bA ?_ _)); exact BK946.out)) : gb953 ≠ gb946)); clear HO_11; clear HO_910003; clear HO_910004; clear HO_947003; clear HO_947004; clear BK893; clear BK909; clear BK946; clear HB; have HO_11 := n0_; have HO_910003 := n1_; have HO_910004 := n2_; have HO_947003 := n3_; have HO_947004 := n4_; have BK893 := n5_; have BK909 := n6_; have BK946 := n7_; have HB := n8_; have BK953 := n9_; have GW953 := n10_; have GE953 := n11_; have NB893_953 := n12_; have NB953_893 := n13_; have NB909_953 := n14_; have NB953_909 := n15_; have NB946_953 := n16_; have NB953_946 := n17_; clear n0_ n1_ n2_ n3_ n4_ n5_ n6_ n7_ n8_ n9_ n10_ n11_ n12_ n13_ n14_ n15_ n16_ n17_; clear hb hbox hg; have hnb100 := NB953_893.out; have hnc100 := NB893_953.out; have hnb101 := NB953_909.out; have hnc101 := NB909_953.out; have hnb102 := NB953_946.out; have hnc102 := NB946_953.out; obtain ⟨hcz103_0, hcz103_1, hcz103_2, hcz103_3, hcz103_4⟩ := cells5 BK953; obtain ⟨hfz103_0, hfz103_1, hfz103_2, hfz103_3, hfz103_4⟩ := frz5 BK953))
             go_loopg [23, 24] k3 (fun kq v23 v24 w' => ∃ (x23_4 : Int) (x24_4 : Int), v23 = .int .i64 x23_4 ∧ v24 = .int .i64 x24_4 ∧ Aside0 (insolvencylaw33_DocketOnce.l2 kq y948 x20_3 x21_3 x23_4 x24_4 t933 t934 t935 t936 t939 ((rd_T50 t939 x21_3).f0) ((rd_T50 t939 x21_3).f1) ((rd_T50 t939 x21_3).f2) ((rd_T50 t939 x21_3).f3) ((rd_T50 t939 x21_3).f4) = some r) ∧ Aside0 (kq ≤ k3) ∧ Aside0 (Kd.R k52 52 w' w.heap.size (fun _ => True) v949 y948) ∧ Aside0 (Kd.R (Kd.int .i64) 3 w' w.heap.size (fun k_ => some k_ ≠ ((.slice Ao82 t936.length co82) : Value).ownBlock) (.slice Ao75 x910003_1.length co75) x910003_1) ∧ Aside0 (Kd.R k50 50 w' w.heap.size (fun k_ => some k_ ≠ ((.slice (some ad952) t939.length co83) : Value).ownBlock ∧ k_ ≠ gb953) (.slice Ao76 x910004_1.length co76) x910004_1) ∧ Aside0 (Kd.R (Kd.int .i64) 3 w' w.heap.size (fun k_ => some k_ ≠ ((.slice Ao75 x910003_1.length co75) : Value).ownBlock) (.slice Ao82 t936.length co82) t936) ∧ Aside0 (Kd.R k50 50 w' w.heap.size (fun k_ => some k_ ≠ ((.slice Ao76 x910004_1.length co76) : Value).ownBlock ∧ k_ ≠ gb953) (.slice (some ad952) t939.length co83) t939) ∧ Aside0 (w'.heap[gb893]? = some (.cells #[.int .u8 a0_0, .int .u8 a0_1] 22 (0, 0))) ∧ Aside0 (w'.heap[gb909]? = some (.cells #[.int .i64 x910000_1, .int .i64 x910001_1, .int .i64 x910002_1, (.slice Ao75 x910003_1.length co75), (.slice Ao76 x910004_1.length co76)] 30 (0, 0))) ∧ Aside0 (w'.heap[gb946]? = some (.cells #[.int .i64 t933, .int .i64 t934, .int .i64 t935, (.slice Ao82 t936.length co82), (.slice (some ad952) t939.length co83)] 30 (0, 0))) ∧ Aside0 (w'.heap[gb953]? = some (.cells #[.int .i64 ((rd_T50 t939 x21_3).f0), .int .i64 ((rd_T50 t939 x21_3).f1), .int .i64 ((rd_T50 t939 x21_3).f2), .int .i64 ((rd_T50 t939 x21_3).f3), .bool ((rd_T50 t939 x21_3).f4)] 50 (0, 0))) ∧ Aside0 (Below w.heap.size w w'))
             case atStart => exact ⟨(0), (0), (by first | rfl | (simp; done) | (simp [*]; done)), (by first | rfl | (simp; done) | (simp [*]; done)), H', ⟨Nat.le_refl _⟩, ⟨by (with_reducible repeat (first | apply Kd.R_alloc | apply Kd.R_drewN | apply Kd.R_drew)); exact Kd.R_mono (Kd.R_far (p := ⟨gb953, 4, none⟩) (Kd.R_far (p := ⟨gb953, 3, none⟩) (Kd.R_far (p := ⟨gb953, 2, none⟩) (Kd.R_far (p := ⟨gb953, 1, none⟩) (Kd.R_far (p := ⟨gb953, 0, none⟩) (Kd.R_types HO_11.out BK953.out (by decide)) (fun _ hk => hk.2) (.int .i64 ((rd_T50 t939 x21_3).f0))) (fun _ hk => hk.2) (.int .i64 ((rd_T50 t939 x21_3).f1))) (fun _ hk => hk.2) (.int .i64 ((rd_T50 t939 x21_3).f2))) (fun _ hk => hk.2) (.int .i64 ((rd_T50 t939 x21_3).f3))) (fun _ hk => hk.2) (.bool ((rd_T50 t939 x21_3).f4))) (fun _ hk => trivial)⟩, ⟨by (with_reducible repeat (first | apply Kd.R_alloc | apply Kd.R_drewN | apply Kd.R_drew)); exact Kd.R_mono (Kd.R_far (p := ⟨gb953, 4, none⟩) (Kd.R_far (p := ⟨gb953, 3, none⟩) (Kd.R_far (p := ⟨gb953, 2, none⟩) (Kd.R_far (p := ⟨gb953, 1, none⟩) (Kd.R_far (p := ⟨gb953, 0, none⟩) (Kd.R_types HO_910003.out BK953.out (by decide)) (fun _ hk => hk.2) (.int .i64 ((rd_T50 t939 x21_3).f0))) (fun _ hk => hk.2) (.int .i64 ((rd_T50 t939 x21_3).f1))) (fun _ hk => hk.2) (.int .i64 ((rd_T50 t939 x21_3).f2))) (fun _ hk => hk.2) (.int .i64 ((rd_T50 t939 x21_3).f3))) (fun _ hk => hk.2) (.bool ((rd_T50 t939 x21_3).f4))) (fun _ hk => hk.1)⟩, ⟨by (with_reducible repeat (first | apply Kd.R_alloc | apply Kd.R_drewN | apply Kd.R_drew)); exact Kd.R_mono (Kd.R_far (p := ⟨gb953, 4, none⟩) (Kd.R_far (p := ⟨gb953, 3, none⟩) (Kd.R_far (p := ⟨gb953, 2, none⟩) (Kd.R_far (p := ⟨gb953, 1, none⟩) (Kd.R_far (p := ⟨gb953, 0, none⟩) (Kd.R_mono HO_910004.out (fun k_ hk => (⟨hk, hk.2⟩ : _ ∧ k_ ≠ gb953))) (fun _ hk => hk.2) (.int .i64 ((rd_T50 t939 x21_3).f0))) (fun _ hk => hk.2) (.int .i64 ((rd_T50 t939 x21_3).f1))) (fun _ hk => hk.2) (.int .i64 ((rd_T50 t939 x21_3).f2))) (fun _ hk => hk.2) (.int .i64 ((rd_T50 t939 x21_3).f3))) (fun _ hk => hk.2) (.bool ((rd_T50 t939 x21_3).f4))) (fun _ hk => ⟨hk.1.1, hk.1.2⟩)⟩, ⟨by (with_reducible repeat (first | apply Kd.R_alloc | apply Kd.R_drewN | apply Kd.R_drew)); exact Kd.R_mono (Kd.R_far (p := ⟨gb953, 4, none⟩) (Kd.R_far (p := ⟨gb953, 3, none⟩) (Kd.R_far (p := ⟨gb953, 2, none⟩) (Kd.R_far (p := ⟨gb953, 1, none⟩) (Kd.R_far (p := ⟨gb953, 0, none⟩) (Kd.R_types HO_947003.out BK953.out (by decide)) (fun _ hk => hk.2) (.int .i64 ((rd_T50 t939 x21_3).f0))) (fun _ hk => hk.2) (.int .i64 ((rd_T50 t939 x21_3).f1))) (fun _ hk => hk.2) (.int .i64 ((rd_T50 t939 x21_3).f2))) (fun _ hk => hk.2) (.int .i64 ((rd_T50 t939 x21_3).f3))) (fun _ hk => hk.2) (.bool ((rd_T50 t939 x21_3).f4))) (fun _ hk => hk.1)⟩, ⟨by (with_reducible repeat (first | apply Kd.R_alloc | apply Kd.R_drewN | apply Kd.R_drew)); exact Kd.R_mono (Kd.R_far (p := ⟨gb953, 4, none⟩) (Kd.R_far (p := ⟨gb953, 3, none⟩) (Kd.R_far (p := ⟨gb953, 2, none⟩) (Kd.R_far (p := ⟨gb953, 1, none⟩) (Kd.R_far (p := ⟨gb953, 0, none⟩) (Kd.R_mono HO_947004.out (fun k_ hk => (⟨hk, hk.2⟩ : _ ∧ k_ ≠ gb953))) (fun _ hk => hk.2) (.int .i64 ((rd_T50 t939 x21_3).f0))) (fun _ hk => hk.2) (.int .i64 ((rd_T50 t939 x21_3).f1))) (fun _ hk => hk.2) (.int .i64 ((rd_T50 t939 x21_3).f2))) (fun _ hk => hk.2) (.int .i64 ((rd_T50 t939 x21_3).f3))) (fun _ hk => hk.2) (.bool ((rd_T50 t939 x21_3).f4))) (fun _ hk => ⟨hk.1.1, hk.1.2⟩)⟩, ⟨by (with_reducible repeat (first|refine bN ?_ _|refine bD ?_|refine bA ?_ _)); refine blk_far ?_ NB893_953.out _; (with_reducible repeat (first|refine bN ?_ _|refine bD ?_|refine bA ?_ _)); refine blk_far ?_ NB893_953.out _; (with_reducible repeat (first|refine bN ?_ _|refine bD ?_|refine bA ?_ _)); refine blk_far ?_ NB893_953.out _; (with_reducible repeat (first|refine bN ?_ _|refine bD ?_|refine bA ?_ _)); refine blk_far ?_ NB893_953.out _; (with_reducible repeat (first|refine bN ?_ _|refine bD ?_|refine bA ?_ _)); refine blk_far ?_ NB893_953.out _; (with_reducible repeat (first|refine bN ?_ _|refine bD ?_|refine bA ?_ _)); exact BK893.out⟩, ⟨by (with_reducible repeat (first|refine bN ?_ _|refine bD ?_|refine bA ?_ _)); refine blk_far ?_ NB909_953.out _; (with_reducible repeat (first|refine bN ?_ _|refine bD ?_|refine bA ?_ _)); refine blk_far ?_ NB909_953.out _; (with_reducible repeat (first|refine bN ?_ _|refine bD ?_|refine bA ?_ _)); refine blk_far ?_ NB909_953.out _; (with_reducible repeat (first|refine bN ?_ _|refine bD ?_|refine bA ?_ _)); refine blk_far ?_ NB909_953.out _; (with_reducible repeat (first|refine bN ?_ _|refine bD ?_|refine bA ?_ _)); refine blk_far ?_ NB909_953.out _; (with_reducible repeat (first|refine bN ?_ _|refine bD ?_|refine bA ?_ _)); exact BK909.out⟩, ⟨by (with_reducible repeat (first|refine bN ?_ _|refine bD ?_|refine bA ?_ _)); refine blk_far ?_ NB946_953.out _; (with_reducible repeat (first|refine bN ?_ _|refine bD ?_|refine bA ?_ _)); refine blk_far ?_ NB946_953.out _; (with_reducible repeat (first|refine bN ?_ _|refine bD ?_|refine bA ?_ _)); refine blk_far ?_ NB946_953.out _; (with_reducible repeat (first|refine bN ?_ _|refine bD ?_|refine bA ?_ _)); refine blk_far ?_ NB946_953.out _; (with_reducible repeat (first|refine bN ?_ _|refine bD ?_|refine bA ?_ _)); refine blk_far ?_ NB946_953.out _; (with_reducible repeat (first|refine bN ?_ _|refine bD ?_|refine bA ?_ _)); exact BK946.out⟩, ⟨by (with_reducible repeat (first|refine bN ?_ _|refine bD ?_|refine bA ?_ _)); refine blk_put (cs := #[.int .i64 ((rd_T50 t939 x21_3).f0), .int .i64 ((rd_T50 t939 x21_3).f1), .int .i64 ((rd_T50 t939 x21_3).f2), .int .i64 ((rd_T50 t939 x21_3).f3), .bool false]) ?_ 4 _ rfl; (with_reducible repeat (first|refine bN ?_ _|refine bD ?_|refine bA ?_ _)); refine blk_put (cs := #[.int .i64 ((rd_T50 t939 x21_3).f0), .int .i64 ((rd_T50 t939 x21_3).f1), .int .i64 ((rd_T50 t939 x21_3).f2), .int .i64 0, .bool false]) ?_ 3 _ rfl; (with_reducible repeat (first|refine bN ?_ _|refine bD ?_|refine bA ?_ _)); refine blk_put (cs := #[.int .i64 ((rd_T50 t939 x21_3).f0), .int .i64 ((rd_T50 t939 x21_3).f1), .int .i64 0, .int .i64 0, .bool false]) ?_ 2 _ rfl; (with_reducible repeat (first|refine bN ?_ _|refine bD ?_|refine bA ?_ _)); refine blk_put (cs := #[.int .i64 ((rd_T50 t939 x21_3).f0), .int .i64 0, .int .i64 0, .int .i64 0, .bool false]) ?_ 1 _ rfl; (with_reducible repeat (first|refine bN ?_ _|refine bD ?_|refine bA ?_ _)); refine blk_put (cs := #[.int .i64 0, .int .i64 0, .int .i64 0, .int .i64 0, .bool false]) ?_ 0 _ rfl; (with_reducible repeat (first|refine bN ?_ _|refine bD ?_|refine bA ?_ _)); exact BK953.out⟩, ⟨pB HB⟩⟩
             case round =>
              clear H'
              try clear c1
              try clear c2
              try clear p2
              try clear c5
              try clear c6
              try clear p6
              try clear c7
              try clear c8
              try clear c9
              try clear p9
              try clear q9
              try clear hx9
              try clear c10
              try clear c13
              try clear c20
              try clear c20b0
              try clear c21
              try clear c23
              try clear c23b0
              try clear c23b1
              try clear c24
              try clear c26
              try clear c51
              try clear c51b0
              try clear c51b1
              try clear p64
              try clear c66
              try clear c67
              try clear c73
              try clear c79
              try clear c80
              try clear c84
              try clear c84b0
              try clear c84b1
              try clear c86
              try clear c87
              try clear c90
              try clear c91
              try clear p91
              try clear q91
              try clear hx91
              try clear c94
              try clear c94b0
              try clear c95
              try clear c95b0
              try clear p95
              try clear q95
              try clear hx95
              try clear c96
              try clear c97
              try clear c100
              try clear c101
              try clear c102
              try clear hx913_0
              try clear hx913_1
              try clear hx913_2
              try clear hx913_3
              try clear hx952_0
              try clear hx952_1
              try clear hx952_2
              try clear hx952_3
              try clear hx952_4
              try clear p2
              try clear p6
              try clear p64
              try clear p9
              try clear p91
              try clear p913
              try clear p952
              try clear q9
              try clear q91
              try clear q913
              try clear q952
              obtain ⟨x23_4, x24_4, rfl, rfl, HA, HK4, HO_11, HO_910003, HO_910004, HO_947003, HO_947004, BK893, BK909, BK946, BK953, HB⟩ := hrel
              cases gk with
              | zero => exact absurd HA.out (by simp [insolvencylaw33_DocketOnce.l2])
              | succ k4 =>
               have H := HA.out
               clear HA
               simp only [insolvencylaw33_DocketOnce.l2] at H
               by_cases c104 : x24_4 < (y948.length : Int)
               ·rw [if_pos c104] at H
                have c104b0 : decide (x24_4 < (y948.length : Int)) = true := decide_eq_true c104
                clear c104
                by_cases c105 : 0 ≤ x24_4
                ·rw [if_pos c105] at H
                 have c105b0 : decide (0 ≤ x24_4) = true := decide_eq_true c105
                 clear c105
                 by_cases c106 : ((rd_T52 y948 x24_4).f0) = ((rd_T50 t939 x21_3).f0)
                 ·rw [if_pos c106] at H
                  have c106b0 : (((rd_T52 y948 x24_4).f0) == ((rd_T50 t939 x21_3).f0)) = true := beq_iff_eq.mpr c106
                  have c106b1 : (((rd_T52 y948 x24_4).f0) != ((rd_T50 t939 x21_3).f0)) = false := bne_eq_false_iff_eq.mpr c106
                  clear c106
                  by_cases c107 : ((rd_T52 y948 x24_4).f2) = ((rd_T50 t939 x21_3).f3)
                  ·rw [if_pos c107] at H
                   have c107b0 : (((rd_T52 y948 x24_4).f2) == ((rd_T50 t939 x21_3).f3)) = true := beq_iff_eq.mpr c107
                   have c107b1 : (((rd_T52 y948 x24_4).f2) != ((rd_T50 t939 x21_3).f3)) = false := bne_eq_false_iff_eq.mpr c107
                   clear c107
                   by_cases c108 : ((rd_T52 y948 x24_4).f1) > t933
                   ·rw [if_pos c108] at H
                    exact absurd H (by simp)
                   ·rw [if_neg c108] at H
                    have c108b0 : decide (t933 < ((rd_T52 y948 x24_4).f1)) = false := decide_eq_false c108
                    clear c108
                    have H' := Aside0.mk H
                    clear H
                    obtain ⟨Ao109, co109, eo109⟩ := Kd.R_slice HO_11.out
                    subst eo109
                    try go_wp2
                    have n0_ := Aside0.mk (Kd.R_drew HO_11.out)
                    have n1_ := Aside0.mk (Kd.R_drew HO_910003.out)
                    have n2_ := Aside0.mk (Kd.R_drew HO_910004.out)
                    have n3_ := Aside0.mk (Kd.R_drew HO_947003.out)
                    have n4_ := Aside0.mk (Kd.R_drew HO_947004.out)
                    have n5_ := Aside0.mk (blk_drew BK893.out)
                    have n6_ := Aside0.mk (blk_drew BK909.out)
                    have n7_ := Aside0.mk (blk_drew BK946.out)
                    have n8_ := Aside0.mk (blk_drew BK953.out)
                    have n9_ := Aside0.mk (below_drew1 HB.out)
                    clear HO_11
                    clear HO_910003
                    clear HO_910004
                    clear HO_947003
                    clear HO_947004
                    clear BK893
                    clear BK909
                    clear BK946
                    clear BK953
                    clear HB
                    have HO_11 := n0_
                    have HO_910003 := n1_
                    have HO_910004 := n2_
                    have HO_947003 := n3_
                    have HO_947004 := n4_
                    have BK893 := n5_
                    have BK909 := n6_
                    have BK946 := n7_
                    have BK953 := n8_
                    have HB := n9_
                    clear n0_ n1_ n2_ n3_ n4_ n5_ n6_ n7_ n8_ n9_
                    have p954 : 0 ≤ (x24_4 : Int) := of_decide_eq_true (by assumption)
                    have q954 : x24_4 < (y948.length : Int) := of_decide_eq_true (by assumption)
                    obtain ⟨Aq41, cq41, eq41⟩ := Kd.R_slice HO_11.out
                    (first | subst eq41 | clear eq41)
                    obtain ⟨ad954, e954, hx954_0, hx954_1, hx954_2⟩ := at_T52 (Kd.R_reads' HO_11.out).2.2 x24_4 p954 q954
                    cases e954
                    replace p954 := eq_true p954
                    replace q954 := eq_true q954
                    refine start_ (n := 8) (S := fun w' => w'.cell? ⟨gb953, 0, none⟩ = some (.int .i64 ((rd_T50 t939 x21_3).f0)) ∧ w'.cell? ⟨gb953, 1, none⟩ = some (.int .i64 ((rd_T50 t939 x21_3).f1)) ∧ w'.cell? ⟨gb953, 2, none⟩ = some (.int .i64 ((rd_T50 t939 x21_3).f2)) ∧ w'.cell? ⟨gb953, 3, none⟩ = some (.int .i64 ((rd_T50 t939 x21_3).f3)) ∧ w'.cell? ⟨gb953, 4, none⟩ = some (.bool ((rd_T50 t939 x21_3).f4)) ∧ w'.cell? (ad954.add ((x24_4).toNat * 3)) = some (.int .i64 ((rd_T52 y948 x24_4).f0)) ∧ w'.cell? ⟨(ad954.add ((x24_4).toNat * 3)).block, (ad954.add ((x24_4).toNat * 3)).off + 1, none⟩ = some (.int .i64 ((rd_T52 y948 x24_4).f1)) ∧ w'.cell? ⟨(ad954.add ((x24_4).toNat * 3)).block, (ad954.add ((x24_4).toNat * 3)).off + 2, none⟩ = some (.int .i64 ((rd_T52 y948 x24_4).f2))) (ds := []) #[false,false,false,false,false,false,false,false] (by kernel_rfl) rfl rfl ⟨(blk_cell BK953.out 0).trans rfl, (blk_cell BK953.out 1).trans rfl, (blk_cell BK953.out 2).trans rfl, (blk_cell BK953.out 3).trans rfl, (blk_cell BK953.out 4).trans rfl, hx954_0, hx954_1, hx954_2⟩ (fun hHeld => ?_); refine with_tabW insolvencylaw33_DocketOnce.tab28 insolvencylaw33_DocketOnce.bits28 (fun HT_ HW_ => ?_)
                    generalize wr.drew = w110 at HO_11 HO_910003 HO_910004 HO_947003 HO_947004 BK893 BK909 BK946 BK953 HB hx954_0 hx954_1 hx954_2 hHeld ⊢
                    refine pure_ (i := 0) (N := some 101) (v := ?_) (a' := ?_) #[true,false,false,false,false,false,false,false] rfl rfl (any_of HT_.out (by kernel_rfl)) (fun _ _ _ h => h) (Or.inl ⟨by rfl, ?_⟩) ?_ ?_
                    rotate_left
                    ·intro w'
                     go_simp
                     with_reducible rfl
                    rotate_left
                    ·simp only [Act.put,sT,sZ,sU,i64_w,i32_w]
                     rfl
                    refine pure_ (i := 1) (N := some 102) (v := ?_) (a' := ?_) #[true,true,false,false,false,false,false,false] rfl rfl (any_of HT_.out (by kernel_rfl)) (fun _ _ _ h => h) (Or.inl ⟨by rfl, ?_⟩) ?_ ?_
                    rotate_left
                    ·intro w'
                     go_simp
                     with_reducible rfl
                    rotate_left
                    ·simp only [Act.put,sT,sZ,sU,i64_w,i32_w]
                     rfl
                    refine pure_ (i := 2) (N := some 103) (v := ?_) (a' := ?_) #[true,true,true,false,false,false,false,false] rfl rfl (any_of HT_.out (by kernel_rfl)) (fun _ _ _ h => h) (Or.inl ⟨by rfl, ?_⟩) ?_ ?_
                    rotate_left
                    ·intro w'
                     go_simp
                     with_reducible rfl
                    rotate_left
                    ·simp only [Act.put,sT,sZ,sU,i64_w,i32_w]
                     rfl
                    refine pure_ (i := 3) (N := some 104) (v := ?_) (a' := ?_) #[true,true,true,true,false,false,false,false] rfl rfl (any_of HT_.out (by kernel_rfl)) (fun _ _ _ h => h) (Or.inl ⟨by rfl, ?_⟩) ?_ ?_
                    rotate_left
                    ·intro w'
                     go_simp
                     with_reducible rfl
                    rotate_left
                    ·simp only [Act.put,sT,sZ,sU,i64_w,i32_w]
                     rfl
                    refine pure_ (i := 5) (N := some 106) (v := ?_) (a' := ?_) #[true,true,true,true,false,true,false,false] rfl rfl (any_of HT_.out (by kernel_rfl)) (fun _ _ _ h => h) (Or.inl ⟨by rfl, ?_⟩) ?_ ?_
                    rotate_left
                    ·intro w'
                     go_simp
                     with_reducible rfl
                    rotate_left
                    ·simp only [Act.put,sT,sZ,sU,i64_w,i32_w]
                     rfl
                    refine take_ (i := 4) (N := some 105) (v := ?_) (a' := ?_) #[true,true,true,true,true,true,false,false] rfl rfl (take_ofW HT_.out HW_.out (by kernel_rfl)) (fun _ _ _ h => h) (Or.inl ⟨by rfl, ?_⟩) hHeld ?_ ?_
                    rotate_left
                    ·rintro w' ⟨s0, s1, s2, s3, s4, s5, s6, s7⟩
                     go_simp
                     with_reducible rfl
                    rotate_left
                    ·simp only [Act.put,sT,sZ,sU,i64_w,i32_w]
                     rfl
                    refine take_ (i := 6) (N := some 107) (v := ?_) (a' := ?_) #[true,true,true,true,true,true,true,false] rfl rfl (take_ofW HT_.out HW_.out (by kernel_rfl)) (fun _ _ _ h => h) (Or.inl ⟨by rfl, ?_⟩) hHeld ?_ ?_
                    rotate_left
                    ·rintro w' ⟨s0, s1, s2, s3, s4, s5, s6, s7⟩
                     go_simp
                     with_reducible rfl
                    rotate_left
                    ·simp only [Act.put,sT,sZ,sU,i64_w,i32_w]
                     rfl
                    refine pure_ (i := 7) (N := some 108) (v := ?_) (a' := ?_) #[true,true,true,true,true,true,true,true] rfl rfl (any_of HT_.out (by kernel_rfl)) (fun _ _ _ h => h) (Or.inl ⟨by rfl, ?_⟩) ?_ ?_
                    rotate_left
                    ·intro w'
                     go_simp
                     with_reducible rfl
                    rotate_left
                    ·simp only [Act.put,sT,sZ,sU,i64_w,i32_w]
                     rfl
                    refine done_ (done_of HT_.out (by kernel_rfl)) ?_
                    try go_wp2
                    have n0_ := Aside0.mk (Kd.R_drew HO_11.out)
                    have n1_ := Aside0.mk (Kd.R_drew HO_910003.out)
                    have n2_ := Aside0.mk (Kd.R_drew HO_910004.out)
                    have n3_ := Aside0.mk (Kd.R_drew HO_947003.out)
                    have n4_ := Aside0.mk (Kd.R_drew HO_947004.out)
                    have n5_ := Aside0.mk (blk_drew BK893.out)
                    have n6_ := Aside0.mk (blk_drew BK909.out)
                    have n7_ := Aside0.mk (blk_drew BK946.out)
                    have n8_ := Aside0.mk (blk_drew BK953.out)
                    have n9_ := Aside0.mk (below_drew1 HB.out)
                    clear HO_11
                    clear HO_910003
                    clear HO_910004
                    clear HO_947003
                    clear HO_947004
                    clear BK893
                    clear BK909
                    clear BK946
                    clear BK953
                    clear HB
                    have HO_11 := n0_
                    have HO_910003 := n1_
                    have HO_910004 := n2_
                    have HO_947003 := n3_
                    have HO_947004 := n4_
                    have BK893 := n5_
                    have BK909 := n6_
                    have BK946 := n7_
                    have BK953 := n8_
                    have HB := n9_
                    clear n0_ n1_ n2_ n3_ n4_ n5_ n6_ n7_ n8_ n9_
                    have p955 : 0 ≤ (x24_4 : Int) := of_decide_eq_true (by assumption)
                    have q955 : x24_4 < (y948.length : Int) := of_decide_eq_true (by assumption)
                    obtain ⟨Aq42, cq42, eq42⟩ := Kd.R_slice HO_11.out
                    (first | subst eq42 | clear eq42)
                    obtain ⟨ad955, e955, hx955_0, hx955_1, hx955_2⟩ := at_T52 (Kd.R_reads' HO_11.out).2.2 x24_4 p955 q955
                    obtain rfl : ad954 = ad955 := (by injection e955)
                    replace p955 := eq_true p955
                    replace q955 := eq_true q955
                    have p956 : 0 ≤ (x24_4 : Int) := of_decide_eq_true (by assumption)
                    have q956 : x24_4 < (y948.length : Int) := of_decide_eq_true (by assumption)
                    obtain ⟨Aq43, cq43, eq43⟩ := Kd.R_slice HO_11.out
                    (first | subst eq43 | clear eq43)
                    obtain ⟨ad956, e956, hx956_0, hx956_1, hx956_2⟩ := at_T52 (Kd.R_reads' HO_11.out).2.2 x24_4 p956 q956
                    obtain rfl : ad954 = ad956 := (by injection e956)
                    replace p956 := eq_true p956
                    replace q956 := eq_true q956
                    refine start_ (n := 18) (S := fun w' => w'.cell? ⟨gb953, 0, none⟩ = some (.int .i64 ((rd_T50 t939 x21_3).f0)) ∧ w'.cell? ⟨gb953, 1, none⟩ = some (.int .i64 ((rd_T50 t939 x21_3).f1)) ∧ w'.cell? ⟨gb953, 2, none⟩ = some (.int .i64 ((rd_T50 t939 x21_3).f2)) ∧ w'.cell? ⟨gb953, 3, none⟩ = some (.int .i64 ((rd_T50 t939 x21_3).f3)) ∧ w'.cell? ⟨gb953, 4, none⟩ = some (.bool ((rd_T50 t939 x21_3).f4)) ∧ w'.cell? ⟨gb946, 0, none⟩ = some (.int .i64 t933) ∧ w'.cell? ⟨gb946, 1, none⟩ = some (.int .i64 t934) ∧ w'.cell? ⟨gb946, 2, none⟩ = some (.int .i64 t935) ∧ w'.cell? ⟨gb946, 3, none⟩ = some (.slice Ao82 t936.length co82) ∧ w'.cell? ⟨gb946, 4, none⟩ = some (.slice (some ad952) t939.length co83) ∧ w'.cell? (ad954.add ((x24_4).toNat * 3)) = some (.int .i64 ((rd_T52 y948 x24_4).f0)) ∧ w'.cell? ⟨(ad954.add ((x24_4).toNat * 3)).block, (ad954.add ((x24_4).toNat * 3)).off + 1, none⟩ = some (.int .i64 ((rd_T52 y948 x24_4).f1)) ∧ w'.cell? ⟨(ad954.add ((x24_4).toNat * 3)).block, (ad954.add ((x24_4).toNat * 3)).off + 2, none⟩ = some (.int .i64 ((rd_T52 y948 x24_4).f2)) ∧ w'.cell? (ad954.add ((x24_4).toNat * 3)) = some (.int .i64 ((rd_T52 y948 x24_4).f0)) ∧ w'.cell? ⟨(ad954.add ((x24_4).toNat * 3)).block, (ad954.add ((x24_4).toNat * 3)).off + 1, none⟩ = some (.int .i64 ((rd_T52 y948 x24_4).f1)) ∧ w'.cell? ⟨(ad954.add ((x24_4).toNat * 3)).block, (ad954.add ((x24_4).toNat * 3)).off + 2, none⟩ = some (.int .i64 ((rd_T52 y948 x24_4).f2))) (ds := []) #[false,false,false,false,false,false,false,false,false,false,false,false,false,false,false,false,false,false] (by kernel_rfl) rfl rfl ⟨(blk_cell BK953.out 0).trans rfl, (blk_cell BK953.out 1).trans rfl, (blk_cell BK953.out 2).trans rfl, (blk_cell BK953.out 3).trans rfl, (blk_cell BK953.out 4).trans rfl, (blk_cell BK946.out 0).trans rfl, (blk_cell BK946.out 1).trans rfl, (blk_cell BK946.out 2).trans rfl, (blk_cell BK946.out 3).trans rfl, (blk_cell BK946.out 4).trans rfl, hx955_0, hx955_1, hx955_2, hx956_0, hx956_1, hx956_2⟩ (fun hHeld => ?_); refine with_tabW insolvencylaw33_DocketOnce.tab30 insolvencylaw33_DocketOnce.bits30 (fun HT_ HW_ => ?_)
                    generalize w110.drew = w111 at HO_11 HO_910003 HO_910004 HO_947003 HO_947004 BK893 BK909 BK946 BK953 HB hx955_0 hx955_1 hx955_2 hx956_0 hx956_1 hx956_2 hHeld ⊢
                    refine pure_ (i := 0) (N := some 111) (v := ?_) (a' := ?_) #[true,false,false,false,false,false,false,false,false,false,false,false,false,false,false,false,false,false] rfl rfl (any_of HT_.out (by kernel_rfl)) (fun _ _ _ h => h) (Or.inl ⟨by rfl, ?_⟩) ?_ ?_
                    rotate_left
                    ·intro w'
                     go_simp
                     with_reducible rfl
                    rotate_left
                    ·simp only [Act.put,sT,sZ,sU,i64_w,i32_w]
                     rfl
                    refine pure_ (i := 1) (N := some 112) (v := ?_) (a' := ?_) #[true,true,false,false,false,false,false,false,false,false,false,false,false,false,false,false,false,false] rfl rfl (any_of HT_.out (by kernel_rfl)) (fun _ _ _ h => h) (Or.inl ⟨by rfl, ?_⟩) ?_ ?_
                    rotate_left
                    ·intro w'
                     go_simp
                     with_reducible rfl
                    rotate_left
                    ·simp only [Act.put,sT,sZ,sU,i64_w,i32_w]
                     rfl
                    refine pure_ (i := 2) (N := some 113) (v := ?_) (a' := ?_) #[true,true,true,false,false,false,false,false,false,false,false,false,false,false,false,false,false,false] rfl rfl (any_of HT_.out (by kernel_rfl)) (fun _ _ _ h => h) (Or.inl ⟨by rfl, ?_⟩) ?_ ?_
                    rotate_left
                    ·intro w'
                     go_simp
                     with_reducible rfl
                    rotate_left
                    ·simp only [Act.put,sT,sZ,sU,i64_w,i32_w]
                     rfl
                    refine pure_ (i := 3) (N := some 114) (v := ?_) (a' := ?_) #[true,true,true,true,false,false,false,false,false,false,false,false,false,false,false,false,false,false] rfl rfl (any_of HT_.out (by kernel_rfl)) (fun _ _ _ h => h) (Or.inl ⟨by rfl, ?_⟩) ?_ ?_
                    rotate_left
                    ·intro w'
                     go_simp
                     with_reducible rfl
                    rotate_left
                    ·simp only [Act.put,sT,sZ,sU,i64_w,i32_w]
                     rfl
                    refine pure_ (i := 5) (N := some 116) (v := ?_) (a' := ?_) #[true,true,true,true,false,true,false,false,false,false,false,false,false,false,false,false,false,false] rfl rfl (any_of HT_.out (by kernel_rfl)) (fun _ _ _ h => h) (Or.inl ⟨by rfl, ?_⟩) ?_ ?_
                    rotate_left
                    ·intro w'
                     go_simp
                     with_reducible rfl
                    rotate_left
                    ·simp only [Act.put,sT,sZ,sU,i64_w,i32_w]
                     rfl
                    refine take_ (i := 4) (N := some 115) (v := ?_) (a' := ?_) #[true,true,true,true,true,true,false,false,false,false,false,false,false,false,false,false,false,false] rfl rfl (take_ofW HT_.out HW_.out (by kernel_rfl)) (fun _ _ _ h => h) (Or.inl ⟨by rfl, ?_⟩) hHeld ?_ ?_
                    rotate_left
                    ·rintro w' ⟨s0, s1, s2, s3, s4, s5, s6, s7, s8, s9, s10, s11, s12, s13, s14, s15⟩
                     go_simp
                     with_reducible rfl
                    rotate_left
                    ·simp only [Act.put,sT,sZ,sU,i64_w,i32_w]
                     rfl
                    refine take_ (i := 6) (N := some 117) (v := ?_) (a' := ?_) #[true,true,true,true,true,true,true,false,false,false,false,false,false,false,false,false,false,false] rfl rfl (take_ofW HT_.out HW_.out (by kernel_rfl)) (fun _ _ _ h => h) (Or.inl ⟨by rfl, ?_⟩) hHeld ?_ ?_
                    rotate_left
                    ·rintro w' ⟨s0, s1, s2, s3, s4, s5, s6, s7, s8, s9, s10, s11, s12, s13, s14, s15⟩
                     go_simp
                     with_reducible rfl
                    rotate_left
                    ·simp only [Act.put,sT,sZ,sU,i64_w,i32_w]
                     rfl
                    refine pure_ (i := 7) (N := some 118) (v := ?_) (a' := ?_) #[true,true,true,true,true,true,true,true,false,false,false,false,false,false,false,false,false,false] rfl rfl (any_of HT_.out (by kernel_rfl)) (fun _ _ _ h => h) (Or.inl ⟨by rfl, ?_⟩) ?_ ?_
                    rotate_left
                    ·intro w'
                     go_simp
                     with_reducible rfl
                    rotate_left
                    ·simp only [Act.put,sT,sZ,sU,i64_w,i32_w]
                     rfl
                    refine pure_ (i := 8) (N := some 119) (v := ?_) (a' := ?_) #[true,true,true,true,true,true,true,true,true,false,false,false,false,false,false,false,false,false] rfl rfl (any_of HT_.out (by kernel_rfl)) (fun _ _ _ h => h) (Or.inl ⟨by rfl, ?_⟩) ?_ ?_
                    rotate_left
                    ·intro w'
                     go_simp
                     with_reducible rfl
                    rotate_left
                    ·simp only [Act.put,sT,sZ,sU,i64_w,i32_w]
                     rfl
                    refine pure_ (i := 9) (N := some 120) (v := ?_) (a' := ?_) #[true,true,true,true,true,true,true,true,true,true,false,false,false,false,false,false,false,false] rfl rfl (any_of HT_.out (by kernel_rfl)) (fun _ _ _ h => h) (Or.inl ⟨by rfl, ?_⟩) ?_ ?_
                    rotate_left
                    ·intro w'
                     go_simp
                     with_reducible rfl
                    rotate_left
                    ·simp only [Act.put,sT,sZ,sU,i64_w,i32_w]
                     rfl
                    refine pure_ (i := 10) (N := some 121) (v := ?_) (a' := ?_) #[true,true,true,true,true,true,true,true,true,true,true,false,false,false,false,false,false,false] rfl rfl (any_of HT_.out (by kernel_rfl)) (fun _ _ _ h => h) (Or.inl ⟨by rfl, ?_⟩) ?_ ?_
                    rotate_left
                    ·intro w'
                     go_simp
                     with_reducible rfl
                    rotate_left
                    ·simp only [Act.put,sT,sZ,sU,i64_w,i32_w]
                     rfl
                    refine pure_ (i := 11) (N := some 122) (v := ?_) (a' := ?_) #[true,true,true,true,true,true,true,true,true,true,true,true,false,false,false,false,false,false] rfl rfl (any_of HT_.out (by kernel_rfl)) (fun _ _ _ h => h) (Or.inl ⟨by rfl, ?_⟩) ?_ ?_
                    rotate_left
                    ·intro w'
                     go_simp
                     with_reducible rfl
                    rotate_left
                    ·simp only [Act.put,sT,sZ,sU,i64_w,i32_w]
                     rfl
                    refine pure_ (i := 12) (N := some 123) (v := ?_) (a' := ?_) #[true,true,true,true,true,true,true,true,true,true,true,true,true,false,false,false,false,false] rfl rfl (any_of HT_.out (by kernel_rfl)) (fun _ _ _ h => h) (Or.inl ⟨by rfl, ?_⟩) ?_ ?_
                    rotate_left
                    ·intro w'
                     go_simp
                     with_reducible rfl
                    rotate_left
                    ·simp only [Act.put,sT,sZ,sU,i64_w,i32_w]
                     rfl
                    refine pure_ (i := 14) (N := some 125) (v := ?_) (a' := ?_) #[true,true,true,true,true,true,true,true,true,true,true,true,true,false,true,false,false,false] rfl rfl (any_of HT_.out (by kernel_rfl)) (fun _ _ _ h => h) (Or.inl ⟨by rfl, ?_⟩) ?_ ?_
                    rotate_left
                    ·intro w'
                     go_simp
                     with_reducible rfl
                    rotate_left
                    ·simp only [Act.put,sT,sZ,sU,i64_w,i32_w]
                     rfl
                    refine take_ (i := 13) (N := some 124) (v := ?_) (a' := ?_) #[true,true,true,true,true,true,true,true,true,true,true,true,true,true,true,false,false,false] rfl rfl (take_ofW HT_.out HW_.out (by kernel_rfl)) (fun _ _ _ h => h) (Or.inl ⟨by rfl, ?_⟩) hHeld ?_ ?_
                    rotate_left
                    ·rintro w' ⟨s0, s1, s2, s3, s4, s5, s6, s7, s8, s9, s10, s11, s12, s13, s14, s15⟩
                     go_simp
                     with_reducible rfl
                    rotate_left
                    ·simp only [Act.put,sT,sZ,sU,i64_w,i32_w]
                     rfl
                    refine take_ (i := 15) (N := some 126) (v := ?_) (a' := ?_) #[true,true,true,true,true,true,true,true,true,true,true,true,true,true,true,true,false,false] rfl rfl (take_ofW HT_.out HW_.out (by kernel_rfl)) (fun _ _ _ h => h) (Or.inl ⟨by rfl, ?_⟩) hHeld ?_ ?_
                    rotate_left
                    ·rintro w' ⟨s0, s1, s2, s3, s4, s5, s6, s7, s8, s9, s10, s11, s12, s13, s14, s15⟩
                     go_simp
                     with_reducible rfl
                    rotate_left
                    ·simp only [Act.put,sT,sZ,sU,i64_w,i32_w]
                     rfl
                    refine pure_ (i := 16) (N := some 127) (v := ?_) (a' := ?_) #[true,true,true,true,true,true,true,true,true,true,true,true,true,true,true,true,true,false] rfl rfl (any_of HT_.out (by kernel_rfl)) (fun _ _ _ h => h) (Or.inl ⟨by rfl, ?_⟩) ?_ ?_
                    rotate_left
                    ·intro w'
                     go_simp
                     with_reducible rfl
                    rotate_left
                    ·simp only [Act.put,sT,sZ,sU,i64_w,i32_w]
                     rfl
                    refine pure_ (i := 17) (N := some 128) (v := ?_) (a' := ?_) #[true,true,true,true,true,true,true,true,true,true,true,true,true,true,true,true,true,true] rfl rfl (any_of HT_.out (by kernel_rfl)) (fun _ _ _ h => h) (Or.inl ⟨by rfl, ?_⟩) ?_ ?_
                    rotate_left
                    ·intro w'
                     go_simp
                     with_reducible rfl
                    rotate_left
                    ·simp only [Act.put,sT,sZ,sU,i64_w,i32_w]
                     rfl
                    refine done_ (done_of HT_.out (by kernel_rfl)) ?_
                    try go_wp2
                    go_roundg k4
                    case measure => have := HK1.out; have := HJ70.out; have := HK3.out; have := HK4.out; omega
                    case rel => exact ⟨(wrap64 (x23_4 + 1)), (wrap64 (x24_4 + 1)), (by first | rfl | (simp; done) | (simp [*]; done)), (by first | rfl | (simp; done) | (simp [*]; done)), H', ⟨by have := HK1.out; have := HJ70.out; have := HK3.out; have := HK4.out; omega⟩, ⟨by (with_reducible repeat (first | apply Kd.R_alloc | apply Kd.R_drewN | apply Kd.R_drew)); exact HO_11.out⟩, ⟨by (with_reducible repeat (first | apply Kd.R_alloc | apply Kd.R_drewN | apply Kd.R_drew)); exact HO_910003.out⟩, ⟨by (with_reducible repeat (first | apply Kd.R_alloc | apply Kd.R_drewN | apply Kd.R_drew)); exact HO_910004.out⟩, ⟨by (with_reducible repeat (first | apply Kd.R_alloc | apply Kd.R_drewN | apply Kd.R_drew)); exact HO_947003.out⟩, ⟨by (with_reducible repeat (first | apply Kd.R_alloc | apply Kd.R_drewN | apply Kd.R_drew)); exact HO_947004.out⟩, ⟨by (with_reducible repeat (first|refine bN ?_ _|refine bD ?_|refine bA ?_ _)); exact BK893.out⟩, ⟨by (with_reducible repeat (first|refine bN ?_ _|refine bD ?_|refine bA ?_ _)); exact BK909.out⟩, ⟨by (with_reducible repeat (first|refine bN ?_ _|refine bD ?_|refine bA ?_ _)); exact BK946.out⟩, ⟨by (with_reducible repeat (first|refine bN ?_ _|refine bD ?_|refine bA ?_ _)); exact BK953.out⟩, ⟨pB HB⟩⟩
                  ·rw [if_neg c107] at H
                   exact absurd H (by simp)
                 ·rw [if_neg c106] at H
                  have c106b0 : (((rd_T52 y948 x24_4).f0) == ((rd_T50 t939 x21_3).f0)) = false := beq_eq_false_iff_ne.mpr c106
                  have c106b1 : (((rd_T52 y948 x24_4).f0) != ((rd_T50 t939 x21_3).f0)) = true := bne_iff_ne.mpr c106
                  have H' := Aside0.mk H
                  clear H
                  obtain ⟨Ao112, co112, eo112⟩ := Kd.R_slice HO_11.out
                  subst eo112
                  try go_wp2
                  have n0_ := Aside0.mk (Kd.R_drew HO_11.out)
                  have n1_ := Aside0.mk (Kd.R_drew HO_910003.out)
                  have n2_ := Aside0.mk (Kd.R_drew HO_910004.out)
                  have n3_ := Aside0.mk (Kd.R_drew HO_947003.out)
                  have n4_ := Aside0.mk (Kd.R_drew HO_947004.out)
                  have n5_ := Aside0.mk (blk_drew BK893.out)
                  have n6_ := Aside0.mk (blk_drew BK909.out)
                  have n7_ := Aside0.mk (blk_drew BK946.out)
                  have n8_ := Aside0.mk (blk_drew BK953.out)
                  have n9_ := Aside0.mk (below_drew1 HB.out)
                  clear HO_11
                  clear HO_910003
                  clear HO_910004
                  clear HO_947003
                  clear HO_947004
                  clear BK893
                  clear BK909
                  clear BK946
                  clear BK953
                  clear HB
                  have HO_11 := n0_
                  have HO_910003 := n1_
                  have HO_910004 := n2_
                  have HO_947003 := n3_
                  have HO_947004 := n4_
                  have BK893 := n5_
                  have BK909 := n6_
                  have BK946 := n7_
                  have BK953 := n8_
                  have HB := n9_
                  clear n0_ n1_ n2_ n3_ n4_ n5_ n6_ n7_ n8_ n9_
                  have p954 : 0 ≤ (x24_4 : Int) := of_decide_eq_true (by assumption)
                  have q954 : x24_4 < (y948.length : Int) := of_decide_eq_true (by assumption)
                  obtain ⟨Aq44, cq44, eq44⟩ := Kd.R_slice HO_11.out
                  (first | subst eq44 | clear eq44)
                  obtain ⟨ad954, e954, hx954_0, hx954_1, hx954_2⟩ := at_T52 (Kd.R_reads' HO_11.out).2.2 x24_4 p954 q954
                  cases e954
                  replace p954 := eq_true p954
                  replace q954 := eq_true q954
                  refine start_ (n := 8) (S := fun w' => w'.cell? ⟨gb953, 0, none⟩ = some (.int .i64 ((rd_T50 t939 x21_3).f0)) ∧ w'.cell? ⟨gb953, 1, none⟩ = some (.int .i64 ((rd_T50 t939 x21_3).f1)) ∧ w'.cell? ⟨gb953, 2, none⟩ = some (.int .i64 ((rd_T50 t939 x21_3).f2)) ∧ w'.cell? ⟨gb953, 3, none⟩ = some (.int .i64 ((rd_T50 t939 x21_3).f3)) ∧ w'.cell? ⟨gb953, 4, none⟩ = some (.bool ((rd_T50 t939 x21_3).f4)) ∧ w'.cell? (ad954.add ((x24_4).toNat * 3)) = some (.int .i64 ((rd_T52 y948 x24_4).f0)) ∧ w'.cell? ⟨(ad954.add ((x24_4).toNat * 3)).block, (ad954.add ((x24_4).toNat * 3)).off + 1, none⟩ = some (.int .i64 ((rd_T52 y948 x24_4).f1)) ∧ w'.cell? ⟨(ad954.add ((x24_4).toNat * 3)).block, (ad954.add ((x24_4).toNat * 3)).off + 2, none⟩ = some (.int .i64 ((rd_T52 y948 x24_4).f2))) (ds := []) #[false,false,false,false,false,false,false,false] (by kernel_rfl) rfl rfl ⟨(blk_cell BK953.out 0).trans rfl, (blk_cell BK953.out 1).trans rfl, (blk_cell BK953.out 2).trans rfl, (blk_cell BK953.out 3).trans rfl, (blk_cell BK953.out 4).trans rfl, hx954_0, hx954_1, hx954_2⟩ (fun hHeld => ?_); refine with_tabW insolvencylaw33_DocketOnce.tab28 insolvencylaw33_DocketOnce.bits28 (fun HT_ HW_ => ?_)
                  generalize wr.drew = w113 at HO_11 HO_910003 HO_910004 HO_947003 HO_947004 BK893 BK909 BK946 BK953 HB hx954_0 hx954_1 hx954_2 hHeld ⊢
                  refine pure_ (i := 0) (N := some 101) (v := ?_) (a' := ?_) #[true,false,false,false,false,false,false,false] rfl rfl (any_of HT_.out (by kernel_rfl)) (fun _ _ _ h => h) (Or.inl ⟨by rfl, ?_⟩) ?_ ?_
                  rotate_left
                  ·intro w'
                   go_simp
                   with_reducible rfl
                  rotate_left
                  ·simp only [Act.put,sT,sZ,sU,i64_w,i32_w]
                   rfl
                  refine pure_ (i := 1) (N := some 102) (v := ?_) (a' := ?_) #[true,true,false,false,false,false,false,false] rfl rfl (any_of HT_.out (by kernel_rfl)) (fun _ _ _ h => h) (Or.inl ⟨by rfl, ?_⟩) ?_ ?_
                  rotate_left
                  ·intro w'
                   go_simp
                   with_reducible rfl
                  rotate_left
                  ·simp only [Act.put,sT,sZ,sU,i64_w,i32_w]
                   rfl
                  refine pure_ (i := 2) (N := some 103) (v := ?_) (a' := ?_) #[true,true,true,false,false,false,false,false] rfl rfl (any_of HT_.out (by kernel_rfl)) (fun _ _ _ h => h) (Or.inl ⟨by rfl, ?_⟩) ?_ ?_
                  rotate_left
                  ·intro w'
                   go_simp
                   with_reducible rfl
                  rotate_left
                  ·simp only [Act.put,sT,sZ,sU,i64_w,i32_w]
                   rfl
                  refine pure_ (i := 3) (N := some 104) (v := ?_) (a' := ?_) #[true,true,true,true,false,false,false,false] rfl rfl (any_of HT_.out (by kernel_rfl)) (fun _ _ _ h => h) (Or.inl ⟨by rfl, ?_⟩) ?_ ?_
                  rotate_left
                  ·intro w'
                   go_simp
                   with_reducible rfl
                  rotate_left
                  ·simp only [Act.put,sT,sZ,sU,i64_w,i32_w]
                   rfl
                  refine pure_ (i := 5) (N := some 106) (v := ?_) (a' := ?_) #[true,true,true,true,false,true,false,false] rfl rfl (any_of HT_.out (by kernel_rfl)) (fun _ _ _ h => h) (Or.inl ⟨by rfl, ?_⟩) ?_ ?_
                  rotate_left
                  ·intro w'
                   go_simp
                   with_reducible rfl
                  rotate_left
                  ·simp only [Act.put,sT,sZ,sU,i64_w,i32_w]
                   rfl
                  refine take_ (i := 4) (N := some 105) (v := ?_) (a' := ?_) #[true,true,true,true,true,true,false,false] rfl rfl (take_ofW HT_.out HW_.out (by kernel_rfl)) (fun _ _ _ h => h) (Or.inl ⟨by rfl, ?_⟩) hHeld ?_ ?_
                  rotate_left
                  ·rintro w' ⟨s0, s1, s2, s3, s4, s5, s6, s7⟩
                   go_simp
                   with_reducible rfl
                  rotate_left
                  ·simp only [Act.put,sT,sZ,sU,i64_w,i32_w]
                   rfl
                  refine take_ (i := 6) (N := some 107) (v := ?_) (a' := ?_) #[true,true,true,true,true,true,true,false] rfl rfl (take_ofW HT_.out HW_.out (by kernel_rfl)) (fun _ _ _ h => h) (Or.inl ⟨by rfl, ?_⟩) hHeld ?_ ?_
                  rotate_left
                  ·rintro w' ⟨s0, s1, s2, s3, s4, s5, s6, s7⟩
                   go_simp
                   with_reducible rfl
                  rotate_left
                  ·simp only [Act.put,sT,sZ,sU,i64_w,i32_w]
                   rfl
                  refine pure_ (i := 7) (N := some 108) (v := ?_) (a' := ?_) #[true,true,true,true,true,true,true,true] rfl rfl (any_of HT_.out (by kernel_rfl)) (fun _ _ _ h => h) (Or.inl ⟨by rfl, ?_⟩) ?_ ?_
                  rotate_left
                  ·intro w'
                   go_simp
                   with_reducible rfl
                  rotate_left
                  ·simp only [Act.put,sT,sZ,sU,i64_w,i32_w]
                   rfl
                  refine done_ (done_of HT_.out (by kernel_rfl)) ?_
                  try go_wp2
                  go_roundg k4
                  case measure => have := HK1.out; have := HJ70.out; have := HK3.out; have := HK4.out; omega
                  case rel => exact ⟨(x23_4), (wrap64 (x24_4 + 1)), (by first | rfl | (simp; done) | (simp [*]; done)), (by first | rfl | (simp; done) | (simp [*]; done)), H', ⟨by have := HK1.out; have := HJ70.out; have := HK3.out; have := HK4.out; omega⟩, ⟨by (with_reducible repeat (first | apply Kd.R_alloc | apply Kd.R_drewN | apply Kd.R_drew)); exact HO_11.out⟩, ⟨by (with_reducible repeat (first | apply Kd.R_alloc | apply Kd.R_drewN | apply Kd.R_drew)); exact HO_910003.out⟩, ⟨by (with_reducible repeat (first | apply Kd.R_alloc | apply Kd.R_drewN | apply Kd.R_drew)); exact HO_910004.out⟩, ⟨by (with_reducible repeat (first | apply Kd.R_alloc | apply Kd.R_drewN | apply Kd.R_drew)); exact HO_947003.out⟩, ⟨by (with_reducible repeat (first | apply Kd.R_alloc | apply Kd.R_drewN | apply Kd.R_drew)); exact HO_947004.out⟩, ⟨by (with_reducible repeat (first|refine bN ?_ _|refine bD ?_|refine bA ?_ _)); exact BK893.out⟩, ⟨by (with_reducible repeat (first|refine bN ?_ _|refine bD ?_|refine bA ?_ _)); exact BK909.out⟩, ⟨by (with_reducible repeat (first|refine bN ?_ _|refine bD ?_|refine bA ?_ _)); exact BK946.out⟩, ⟨by (with_reducible repeat (first|refine bN ?_ _|refine bD ?_|refine bA ?_ _)); exact BK953.out⟩, ⟨pB HB⟩⟩
                ·rw [if_neg c105] at H
                 exact absurd H (by simp)
               ·rw [if_neg c104] at H
                have c104b0 : decide (x24_4 < (y948.length : Int)) = false := decide_eq_false c104
                clear c104
                by_cases c114 : ((rd_T50 t939 x21_3).f1) = 6
                ·rw [if_pos c114] at H
                 have c114b0 : (((rd_T50 t939 x21_3).f1) == 6) = true := beq_iff_eq.mpr c114
                 have c114b1 : (((rd_T50 t939 x21_3).f1) != 6) = false := bne_eq_false_iff_eq.mpr c114
                 clear c114
                 by_cases c115 : ((x23_4 == 1) != (((rd_T50 t939 x21_3).f1) == 6)) = true
                 ·rw [if_pos c115] at H
                  exact absurd H (by simp)
                 ·rw [if_neg c115] at H
                  have c115b0 : ((x23_4 == 1) != (((rd_T50 t939 x21_3).f1) == 6)) = false := by simpa using c115
                  have qx_ : (x23_4 == 1) = (((rd_T50 t939 x21_3).f1) == 6) := by simpa using c115
                  rw [c114b0] at qx_
                  (try (have c115b1 : decide ((x23_4 == 1) = (((rd_T50 t939 x21_3).f1) == 6)) = true := by simpa using c115))
                  (try (have c115b2 : ((x23_4 == 1) == (((rd_T50 t939 x21_3).f1) == 6)) = true := by simpa using c115))
                  clear c115
                  by_cases c116 : x23_4 > 1
                  ·rw [if_pos c116] at H
                   exact absurd H (by simp)
                  ·rw [if_neg c116] at H
                   have c116b0 : decide (1 < x23_4) = false := decide_eq_false c116
                   clear c116
                   have H' := Aside0.mk H
                   clear H
                   obtain ⟨Ao117, co117, eo117⟩ := Kd.R_slice HO_11.out
                   subst eo117
                   have hnb118 := NB953_893.out
                   have hnc118 := NB893_953.out
                   have hnb119 := NB953_909.out
                   have hnc119 := NB909_953.out
                   have hnb120 := NB953_946.out
                   have hnc120 := NB946_953.out
                   obtain ⟨hcz121_0, hcz121_1, hcz121_2, hcz121_3, hcz121_4⟩ := cells5 BK953
                   obtain ⟨hfz121_0, hfz121_1, hfz121_2, hfz121_3, hfz121_4⟩ := frz5 BK953
                   go_wp2
                   go_roundg k4
                   case measure => have := HK1.out; have := HJ70.out; have := HK3.out; have := HK4.out; omega
                   case rel => exact ⟨(wrap64 (x20_3 + 1)), (wrap64 (x21_3 + 1)), (by first | rfl | (simp; done) | (simp [*]; done)), (by first | rfl | (simp; done) | (simp [*]; done)), H', ⟨by have := HK1.out; have := HJ70.out; have := HK3.out; have := HK4.out; omega⟩, ⟨by (with_reducible repeat (first | apply Kd.R_alloc | apply Kd.R_drewN | apply Kd.R_drew)); exact HO_11.out⟩, ⟨by (with_reducible repeat (first | apply Kd.R_alloc | apply Kd.R_drewN | apply Kd.R_drew)); exact HO_910003.out⟩, ⟨by (with_reducible repeat (first | apply Kd.R_alloc | apply Kd.R_drewN | apply Kd.R_drew)); exact Kd.R_mono HO_910004.out (fun _ hk => hk.1)⟩, ⟨by (with_reducible repeat (first | apply Kd.R_alloc | apply Kd.R_drewN | apply Kd.R_drew)); exact HO_947003.out⟩, ⟨by (with_reducible repeat (first | apply Kd.R_alloc | apply Kd.R_drewN | apply Kd.R_drew)); exact Kd.R_mono HO_947004.out (fun _ hk => hk.1)⟩, ⟨by (with_reducible repeat (first|refine bN ?_ _|refine bD ?_|refine bA ?_ _)); exact BK893.out⟩, ⟨by (with_reducible repeat (first|refine bN ?_ _|refine bD ?_|refine bA ?_ _)); exact BK909.out⟩, ⟨by (with_reducible repeat (first|refine bN ?_ _|refine bD ?_|refine bA ?_ _)); exact BK946.out⟩, ⟨pB HB⟩⟩
                ·rw [if_neg c114] at H
                 have c114b0 : (((rd_T50 t939 x21_3).f1) == 6) = false := beq_eq_false_iff_ne.mpr c114
                 have c114b1 : (((rd_T50 t939 x21_3).f1) != 6) = true := bne_iff_ne.mpr c114
                 by_cases c122 : ((x23_4 == 1) != (((rd_T50 t939 x21_3).f1) == 6)) = true
                 ·rw [if_pos c122] at H
                  exact absurd H (by simp)
                 ·rw [if_neg c122] at H
                  have c122b0 : ((x23_4 == 1) != (((rd_T50 t939 x21_3).f1) == 6)) = false := by simpa using c122
                  have qx_ : (x23_4 == 1) = (((rd_T50 t939 x21_3).f1) == 6) := by simpa using c122
                  rw [c114b0] at qx_
                  (try (have c122b1 : decide ((x23_4 == 1) = (((rd_T50 t939 x21_3).f1) == 6)) = true := by simpa using c122))
                  (try (have c122b2 : ((x23_4 == 1) == (((rd_T50 t939 x21_3).f1) == 6)) = true := by simpa using c122))
                  clear c122
                  by_cases c123 : x23_4 > 1
                  ·rw [if_pos c123] at H
                   exact absurd H (by simp)
                  ·rw [if_neg c123] at H
                   have c123b0 : decide (1 < x23_4) = false := decide_eq_false c123
                   clear c123
                   have H' := Aside0.mk H
                   clear H
                   obtain ⟨Ao124, co124, eo124⟩ := Kd.R_slice HO_11.out
                   subst eo124
                   have hnb125 := NB953_893.out
                   have hnc125 := NB893_953.out
                   have hnb126 := NB953_909.out
                   have hnc126 := NB909_953.out
                   have hnb127 := NB953_946.out
                   have hnc127 := NB946_953.out
                   obtain ⟨hcz128_0, hcz128_1, hcz128_2, hcz128_3, hcz128_4⟩ := cells5 BK953
                   obtain ⟨hfz128_0, hfz128_1, hfz128_2, hfz128_3, hfz128_4⟩ := frz5 BK953
                   go_wp2
                   go_roundg k4
                   case measure => have := HK1.out; have := HJ70.out; have := HK3.out; have := HK4.out; omega
                   case rel => exact ⟨(x20_3), (wrap64 (x21_3 + 1)), (by first | rfl | (simp; done) | (simp [*]; done)), (by first | rfl | (simp; done) | (simp [*]; done)), H', ⟨by have := HK1.out; have := HJ70.out; have := HK3.out; have := HK4.out; omega⟩, ⟨by (with_reducible repeat (first | apply Kd.R_alloc | apply Kd.R_drewN | apply Kd.R_drew)); exact HO_11.out⟩, ⟨by (with_reducible repeat (first | apply Kd.R_alloc | apply Kd.R_drewN | apply Kd.R_drew)); exact HO_910003.out⟩, ⟨by (with_reducible repeat (first | apply Kd.R_alloc | apply Kd.R_drewN | apply Kd.R_drew)); exact Kd.R_mono HO_910004.out (fun _ hk => hk.1)⟩, ⟨by (with_reducible repeat (first | apply Kd.R_alloc | apply Kd.R_drewN | apply Kd.R_drew)); exact HO_947003.out⟩, ⟨by (with_reducible repeat (first | apply Kd.R_alloc | apply Kd.R_drewN | apply Kd.R_drew)); exact Kd.R_mono HO_947004.out (fun _ hk => hk.1)⟩, ⟨by (with_reducible repeat (first|refine bN ?_ _|refine bD ?_|refine bA ?_ _)); exact BK893.out⟩, ⟨by (with_reducible repeat (first|refine bN ?_ _|refine bD ?_|refine bA ?_ _)); exact BK909.out⟩, ⟨by (with_reducible repeat (first|refine bN ?_ _|refine bD ?_|refine bA ?_ _)); exact BK946.out⟩, ⟨pB HB⟩⟩
            ·rw [if_neg c95] at H
             exact absurd H (by simp)
           ·rw [if_neg c94] at H
            have c94b0 : decide (x21_3 < (t939.length : Int)) = false := decide_eq_false c94
            clear c94
            replace H := Option.bind_eq_some_iff.mp H
            obtain ⟨t951, A1290, H⟩ := H
            replace H : (if t951 = true then (some (x20_3 == (y948.length : Int))) else (none)) = some r := H
            have A129 := Aside0.mk A1290
            clear A1290
            by_cases c130 : t951 = true
            ·subst c130
             have H1 : (some (x20_3 == (y948.length : Int))) = some r := by rw [if_pos rfl] at H; exact H
             clear H
             have H := H1
             clear H1
             obtain rfl := Option.some.inj H
             have hnb131 := NB946_893.out
             have hnc131 := NB893_946.out
             have hnb132 := NB946_909.out
             have hnc132 := NB909_946.out
             obtain ⟨hcz133_0, hcz133_1, hcz133_2, hcz133_3, hcz133_4⟩ := cells5 BK946
             obtain ⟨hfz133_0, hfz133_1, hfz133_2, hfz133_3, hfz133_4⟩ := frz5 BK946
             go_wp2_with (first | ((with_reducible refine gate_callee (f := 14) rfl ?_); refine goesL_ (some 144) rfl rfl Try.func14 (by kernel_rfl) rfl #[] rfl (by (try simp only [List.map_toArray, List.map_cons, List.map_nil]); first | done | rfl | (simp only [List.length_drop, List.length_take]; rfl)) ?_; (with_reducible refine (insolvencylaw33_awake.calls k3  true _ A129.out).mono ?_); rintro e w134 ⟨rfl, hb⟩; refine ⟨_, rfl, ?_⟩; have n0_ := rB HO_11 hb; have n1_ := rB HO_910003 hb; have n2_ := rB HO_910004 hb; have n3_ := rB HO_947003 hb; have n4_ := rB HO_947004 hb; have n5_ := bB BK893 hb; have n6_ := bB BK909 hb; have n7_ := bB BK946 hb; have n8_ := Aside0.mk (below_step (pB HB) hb); clear HO_11; clear HO_910003; clear HO_910004; clear HO_947003; clear HO_947004; clear BK893; clear BK909; clear BK946; clear HB; have HO_11 := n0_; have HO_910003 := n1_; have HO_910004 := n2_; have HO_947003 := n3_; have HO_947004 := n4_; have BK893 := n5_; have BK909 := n6_; have BK946 := n7_; have HB := n8_; clear n0_ n1_ n2_ n3_ n4_ n5_ n6_ n7_ n8_; (try clear hb); (try clear hb2); (try clear hk); (try clear hi); obtain ⟨Ao135, co135, eo135⟩ := Kd.R_slice HO_11.out; subst eo135))
             go_ret
             exact ⟨by first | rfl | (simp [errW_none, errW_some] <;> rfl) | (simp [*, errW_none, errW_some] <;> rfl), pB HB⟩
            ·replace c130 := Bool.eq_false_iff.mpr c130
             subst c130
             have H1 : (none) = some r := by rw [if_neg (show ¬ (false = true) by decide)] at H; exact H
             clear H
             have H := H1
             clear H1
             exact absurd H (by simp)
        ·rw [if_neg c91] at H
         exact absurd H (by simp)
 ·rw [if_neg c7] at H
  exact absurd H (by simp)

end Go.Proofs.Ytpfiecjacpbhkaa.D

-- The print's words, those alone that this claim's texts mention: struck by a program of this session's.
-- PRINTED WORDS (module Derived/Print/Sized.lean): go-gate-2's, for the rows of laws over slices: an AI agent of Go's test side, Tue Nov 17 2026; no person has read it. Lean checks it.
namespace Go.Proofs.YtpfiecjacpbhkaaW.PrintWords
open Go.ChangeShapes Go.WideShapes
end Go.Proofs.YtpfiecjacpbhkaaW.PrintWords

/- Arguments of the laws, opened: structs and small arrays of plain fields, slices of these and of integers: each told as_ a Lean list, with what the reader says of its numbers. -/
namespace Go.Proofs.Ytpfiecjacpbhkaa.Ho
open Go.RowKit Go.ChangeShapes Go.WideShapes Go.Deep Go.Proofs.YtpfiecjacpbhkaaW.PrintWords
open Go.Proofs.Ytpfiecjacpbhkaa.D

/-- Row by row, a list. -/
theorem rows_of {α : Type} {R : α → List Value → Prop} (ok : α → Prop) {size : Nat} {w : World} {A : Option Addr} {n : Nat} (hn : n ≤ maxLen)
    (h : 0 < n → ∃ ad, A = some ad ∧ ∀ i, i < n → ∃ x c, c.length = size ∧ R x c ∧ ok x ∧ ∀ j u, c[j]? = some u → w.cell? (ad.add (i * size + j)) = some u) :
    ∃ l : List α, n = l.length ∧ ReadsRow R size w A l.length l ∧ ∀ x ∈ l, ok x := by
  rcases Nat.eq_zero_or_pos n with h0 | hp
  · subst h0
    exact ⟨[], rfl, ⟨rfl, Nat.zero_le _, fun h => absurd h (Nat.lt_irrefl 0)⟩, fun x hx => by cases hx⟩
  · obtain ⟨ad, eA, hrow⟩ := h hp
    have key : ∀ m, m ≤ n → ∃ l : List α, l.length = m ∧ (∀ (j : Nat) (p : α), l[j]? = some p → ∃ c : List Value, c.length = size ∧ R p c ∧ ∀ i u, c[i]? = some u → w.cell? (ad.add (j * size + i)) = some u) ∧ ∀ x ∈ l, ok x := by
      intro m
      induction m with
      | zero => exact fun _ => ⟨[], rfl, fun j p hj => by simp at hj, fun x hx => by cases hx⟩
      | succ m ih =>
        intro hm
        obtain ⟨l, hl, hr, hok⟩ := ih (by omega)
        obtain ⟨x, c, hs, hR, hx, hcell⟩ := hrow m (by omega)
        refine ⟨l ++ [x], by simp [hl], ?_, ?_⟩
        · intro j p hj
          by_cases hlt : j < l.length
          · rw [List.getElem?_append_left hlt] at hj
            exact hr j p hj
          · have hle : l.length ≤ j := by omega
            rw [List.getElem?_append_right hle] at hj
            have e0 : j - l.length = 0 := by
              rcases Nat.eq_zero_or_pos (j - l.length) with e | e
              · exact e
              · rw [List.getElem?_eq_none (by simp; omega)] at hj
                cases hj
            rw [e0] at hj
            have ej : j = m := by omega
            subst ej
            have ex : x = p := by simpa using hj
            subst ex
            exact ⟨c, hs, hR, hcell⟩
        · intro y hy
          rcases List.mem_append.1 hy with h1 | h1
          · exact hok y h1
          · have : y = x := by simpa using h1
            subst this
            exact hx
    obtain ⟨l, hl, hr, hok⟩ := key n (Nat.le_refl _)
    refine ⟨l, hl.symm, ⟨rfl, ?_, fun _ => ⟨ad, eA, hr⟩⟩, hok⟩
    rw [hl]
    unfold maxLen at hn
    omega

section
variable {H : Type} {enc : TypeId × Value → H} {P : Program} {w : World} {base : Nat} {spare : Nat → Bool} {held : Bool}

/-- What the reader reads of type e, read as_ R, with 'ok'. -/
def Reads (enc : TypeId × Value → H) (P : Program) (w : World) (base : Nat) (spare : Nat → Bool) (held : Bool) {α : Type} (e : TypeId) (R : α → List Value → Prop) (ok : α → Prop) : Prop :=
  ∀ (n : Nat) (cs : List Value) (x : DataW H × List MemPlace), cs.length = P.cellsOf e → DataW.trod enc P w base spare held n e cs = some x → ∃ a : α, R a cs ∧ ok a

theorem reads_int {t : TypeId} {k : IntKind} (ht : P.underlying t = some (.int k)) : Reads enc P w base spare held t (fun (a : Int) cs => cs = [.int k a]) (fun a => (Lit.int k a).wf = true) := by
  intro n cs x _ h
  cases n with
  | zero => simp [DataW.trod] at h
  | succ n =>
    unfold DataW.trod at h
    rw [ht] at h
    split at h <;> simp_all

theorem reads_bool {t : TypeId} (ht : P.underlying t = some .bool) : Reads enc P w base spare held t (fun (a : Bool) cs => cs = [.bool a]) (fun _ => True) := by
  intro n cs x _ h
  cases n with
  | zero => simp [DataW.trod] at h
  | succ n =>
    unfold DataW.trod at h
    rw [ht] at h
    split at h <;> simp_all

/-- A slice's own length (in bytes, from the sizes), its cells row by row. -/
theorem open_rows {α : Type} {t e : TypeId} {R : α → List Value → Prop} {ok : α → Prop} {v : Value} {d : DataW H} {p : List MemPlace} {r : Reach} {b0 : Nat} (ht : P.underlying t = some (.slice e)) (hv : Value.okWide P w r b0 t v)
    (h : DataW.Trod enc P w base spare held t v d p) (hR : Reads enc P w base spare held e R ok) :
    ∃ (A : Option Addr) (l : List α) (cap : Nat), v = .slice A l.length cap ∧ l.length ≤ cap ∧ l.length ≤ maxLen ∧ ReadsRow R (P.cellsOf e) w A l.length l ∧ ∀ x ∈ l, ok x := by
  obtain ⟨A, len, cap, rfl⟩ := okWide_slice ht hv
  obtain ⟨fuel, hf⟩ := h
  rcases open_slice ht hf with ⟨hcs, _⟩ | ⟨a, len', cap', m, n, D, Pl, hcs, _, hl, hm, hmm, _, hi⟩
  · simp [Value.cells] at hcs
    obtain ⟨rfl, rfl, rfl⟩ := hcs
    exact ⟨none, [], 0, rfl, Nat.zero_le _, Nat.zero_le _, ⟨rfl, Nat.zero_le _, fun h => absurd h (Nat.lt_irrefl 0)⟩, fun x hx => by cases hx⟩
  · simp [Value.cells] at hcs
    obtain ⟨rfl, rfl, rfl⟩ := hcs
    have hlm : len ≤ m := by rw [hmm]; split <;> omega
    obtain ⟨l, rfl, hr, hok⟩ := rows_of (R := R) (w := w) (A := some a) (size := P.cellsOf e) ok (n := len) (by omega) (fun _ => ⟨a, rfl, fun i hi' => by
      obtain ⟨cs', hc, ht'⟩ := hi i (by omega)
      obtain ⟨_, hcl, hat⟩ := World.cells?_some hc
      obtain ⟨x, hx, hx'⟩ := hR n cs' _ hcl ht'
      refine ⟨x, cs', hcl, hx, hx', fun j u hu => ?_⟩
      have hj : j < cs'.length := (List.getElem?_eq_some_iff.1 hu).1
      rw [← Go.Deep.add_add, hat j (by omega), hu]⟩)
    exact ⟨some a, l, cap, rfl, hl, by omega, hr, hok⟩

/-- A struct by value. -/
theorem open_struct {α : Type} {t : TypeId} {fs : Array Field} {R : α → List Value → Prop} {ok : α → Prop} {v : Value} {d : DataW H} {p : List MemPlace} {r : Reach} {b0 : Nat} (ht : P.underlying t = some (.struct fs)) (hv : Value.okWide P w r b0 t v)
    (h : DataW.Trod enc P w base spare held t v d p) (hR : Reads enc P w base spare held t R ok) : ∃ (cs : List Value) (a : α), v = .agg cs.toArray ∧ R a cs ∧ ok a := by
  obtain ⟨cs, rfl, hsz⟩ := okWide_struct ht hv
  obtain ⟨fuel, hf⟩ := h
  obtain ⟨l⟩ := cs
  have e1 : (Value.agg ⟨l⟩).cells.toList = l := by simp [Value.cells]
  rw [e1] at hf
  obtain ⟨a, ha, ha'⟩ := hR fuel l _ (by simpa using hsz) hf
  exact ⟨l, a, rfl, ha, ha'⟩

/-- An array by value. -/
theorem open_array {α : Type} {t e : TypeId} {n : Nat} {R : α → List Value → Prop} {ok : α → Prop} {v : Value} {d : DataW H} {p : List MemPlace} {r : Reach} {b0 : Nat} (ht : P.underlying t = some (.array n e)) (hv : Value.okWide P w r b0 t v)
    (h : DataW.Trod enc P w base spare held t v d p) (hR : Reads enc P w base spare held t R ok) : ∃ (cs : List Value) (a : α), v = .agg cs.toArray ∧ R a cs ∧ ok a := by
  simp only [Value.okWide, ht] at hv
  obtain ⟨cs, rfl, hsz, _⟩ := hv
  obtain ⟨fuel, hf⟩ := h
  obtain ⟨l⟩ := cs
  have e1 : (Value.agg ⟨l⟩).cells.toList = l := by simp [Value.cells]
  rw [e1] at hf
  obtain ⟨a, ha, ha'⟩ := hR fuel l _ (by simpa using hsz) hf
  exact ⟨l, a, rfl, ha, ha'⟩

/-- One field of a struct (or one element of an array) of one cell. -/
theorem field_at {e : TypeId} {fs : Array Field} {n : Nat} {cs : List Value} {x : DataW H × List MemPlace} (he : P.underlying e = some (.struct fs)) (hone : oneCellFields P fs = true) (h : DataW.trod enc P w base spare held n e cs = some x) :
    ∃ m, ∀ (j : Nat) (f : Field) (v : Value), fs[j]? = some f → cs[j]? = some v → P.cellsOf f.type = 1 ∧ ∃ y, DataW.trod enc P w base spare held m f.type [v] = some y := by
  obtain ⟨ys, m, _, _, hlen, hyl, hf⟩ := DataW.trod_struct he h
  refine ⟨m, fun j f v hj hv => ?_⟩
  obtain ⟨ho, hk⟩ := hone_of hone j f hj
  have h1 := hf j f hj
  rw [ho, hk] at h1
  obtain ⟨hjc, hvj⟩ := List.getElem?_eq_some_iff.1 hv
  have hone' : (cs.drop j).take 1 = [v] := by
    rw [List.drop_eq_getElem_cons hjc, hvj]
    rfl
  rw [hone'] at h1
  have hjl : j < ys.length := by have := (Array.getElem?_eq_some_iff.1 hj).1; omega
  exact ⟨hk, ys[j], h1.trans (List.getElem?_eq_getElem hjl)⟩

theorem elem_at {e e' : TypeId} {k n : Nat} {cs : List Value} {x : DataW H × List MemPlace} (he : P.underlying e = some (.array k e')) (hone : P.cellsOf e' = 1) (h : DataW.trod enc P w base spare held n e cs = some x) :
    ∃ m, ∀ (j : Nat) (v : Value), j < k → cs[j]? = some v → ∃ y, DataW.trod enc P w base spare held m e' [v] = some y := by
  obtain ⟨ys, m, _, _, hlen, hyl, hf⟩ := DataW.trod_array he h
  refine ⟨m, fun j v hj hv => ?_⟩
  have h1 := hf j hj
  rw [hone, Nat.mul_one] at h1
  obtain ⟨hjc, hvj⟩ := List.getElem?_eq_some_iff.1 hv
  have hone' : (cs.drop j).take 1 = [v] := by
    rw [List.drop_eq_getElem_cons hjc, hvj]
    rfl
  rw [hone'] at h1
  exact ⟨ys[j]'(by omega), h1.trans (List.getElem?_eq_getElem (by omega))⟩
end
end Go.Proofs.Ytpfiecjacpbhkaa.Ho

/- What the reader reads of the structs and arrays among the laws' arguments, told in Lean. Written by a program of this session's. -/
namespace Go.Proofs.Ytpfiecjacpbhkaa.D
structure S22 where
  f0 : Int
  f1 : Int
def k22.K (_ : World) (x : S22) (cs : List Value) : Prop := cs = [.int .u8 x.f0, .int .u8 x.f1]
theorem k22_mk (w : World) (x : S22) : k22.K w x [.int .u8 x.f0, .int .u8 x.f1] := rfl
theorem k22_open {w : World} {x : S22} {cs : List Value} (h : k22.K w x cs) : cs = [.int .u8 x.f0, .int .u8 x.f1] := h
end Go.Proofs.Ytpfiecjacpbhkaa.D
namespace Go.Proofs.Ytpfiecjacpbhkaa.Ho
open Go.RowKit Go.ChangeShapes Go.WideShapes Go.Deep Go.Proofs.YtpfiecjacpbhkaaW.PrintWords
open Go.Proofs.Ytpfiecjacpbhkaa.D
set_option linter.unusedVariables false
set_option linter.unusedSimpArgs false
section
variable {H : Type} {enc : TypeId × Value → H} {w : World} {base : Nat} {spare : Nat → Bool} {held : Bool}
theorem cellsI_i64 : Try.prog.cellsOf 3 = 1 := by kernel_rfl
theorem cellsI_u16 : Try.prog.cellsOf 54 = 1 := by kernel_rfl
theorem cellsI_u8 : Try.prog.cellsOf 5 = 1 := by kernel_rfl
theorem cellsB : Try.prog.cellsOf 4 = 1 := by kernel_rfl
theorem readsI_i64 : Reads enc Try.prog w base spare held 3 (fun (a : Int) cs => (Kd.int .i64).K w a cs) (fun a => (Lit.int .i64 a).wf = true) := reads_int Try.underlying3
theorem readsI_u16 : Reads enc Try.prog w base spare held 54 (fun (a : Int) cs => (Kd.int .u16).K w a cs) (fun a => (Lit.int .u16 a).wf = true) := reads_int Try.underlying54
theorem readsI_u8 : Reads enc Try.prog w base spare held 5 (fun (a : Int) cs => (Kd.int .u8).K w a cs) (fun a => (Lit.int .u8 a).wf = true) := reads_int Try.underlying5
def ok22 (a : S22) : Prop := (Lit.int .u8 a.f0).wf = true ∧ (Lit.int .u8 a.f1).wf = true
theorem cells22 : Try.prog.cellsOf 22 = 2 := by kernel_rfl
theorem reads22 : Reads enc Try.prog w base spare held 22 (fun (a : S22) cs => k22.K w a cs) ok22 := by
  intro n cs x hl h
  rw [cells22] at hl
  obtain ⟨m, hm⟩ := elem_at Try.underlying22 (by kernel_rfl) h
  match cs, hl with
  | [v0, v1], _ =>
    obtain ⟨y0, h0⟩ := hm 0 v0 (by omega) rfl
    obtain ⟨b0, e0, w0⟩ := reads_int Try.underlying5 m [v0] y0 cellsI_u8.symm h0
    cases e0
    obtain ⟨y1, h1⟩ := hm 1 v1 (by omega) rfl
    obtain ⟨b1, e1, w1⟩ := reads_int Try.underlying5 m [v1] y1 cellsI_u8.symm h1
    cases e1
    exact ⟨⟨b0, b1⟩, k22_mk w _, w0, w1⟩
def ok47 (a : S47) : Prop := (Lit.int .i64 a.f0).wf = true ∧ (Lit.int .i64 a.f1).wf = true ∧ (Lit.int .i64 a.f2).wf = true ∧ (Lit.int .i64 a.f3).wf = true
theorem cells47 : Try.prog.cellsOf 47 = 4 := by kernel_rfl
theorem reads47 : Reads enc Try.prog w base spare held 47 (fun (a : S47) cs => k47.K w a cs) ok47 := by
  intro n cs x hl h
  rw [cells47] at hl
  obtain ⟨m, hm⟩ := field_at Try.underlying47 (by kernel_rfl) h
  match cs, hl with
  | [v0, v1, v2, v3], _ =>
    obtain ⟨_, y0, h0⟩ := hm 0 _ v0 rfl rfl
    obtain ⟨b0, e0, w0⟩ := reads_int Try.underlying3 m [v0] y0 cellsI_i64.symm h0
    cases e0
    obtain ⟨_, y1, h1⟩ := hm 1 _ v1 rfl rfl
    obtain ⟨b1, e1, w1⟩ := reads_int Try.underlying3 m [v1] y1 cellsI_i64.symm h1
    cases e1
    obtain ⟨_, y2, h2⟩ := hm 2 _ v2 rfl rfl
    obtain ⟨b2, e2, w2⟩ := reads_int Try.underlying3 m [v2] y2 cellsI_i64.symm h2
    cases e2
    obtain ⟨_, y3, h3⟩ := hm 3 _ v3 rfl rfl
    obtain ⟨b3, e3, w3⟩ := reads_int Try.underlying3 m [v3] y3 cellsI_i64.symm h3
    cases e3
    exact ⟨⟨b0, b1, b2, b3⟩, k47_mk w _, w0, w1, w2, w3⟩
def ok50 (a : S50) : Prop := (Lit.int .i64 a.f0).wf = true ∧ (Lit.int .i64 a.f1).wf = true ∧ (Lit.int .i64 a.f2).wf = true ∧ (Lit.int .i64 a.f3).wf = true
theorem cells50 : Try.prog.cellsOf 50 = 5 := by kernel_rfl
theorem reads50 : Reads enc Try.prog w base spare held 50 (fun (a : S50) cs => k50.K w a cs) ok50 := by
  intro n cs x hl h
  rw [cells50] at hl
  obtain ⟨m, hm⟩ := field_at Try.underlying50 (by kernel_rfl) h
  match cs, hl with
  | [v0, v1, v2, v3, v4], _ =>
    obtain ⟨_, y0, h0⟩ := hm 0 _ v0 rfl rfl
    obtain ⟨b0, e0, w0⟩ := reads_int Try.underlying3 m [v0] y0 cellsI_i64.symm h0
    cases e0
    obtain ⟨_, y1, h1⟩ := hm 1 _ v1 rfl rfl
    obtain ⟨b1, e1, w1⟩ := reads_int Try.underlying3 m [v1] y1 cellsI_i64.symm h1
    cases e1
    obtain ⟨_, y2, h2⟩ := hm 2 _ v2 rfl rfl
    obtain ⟨b2, e2, w2⟩ := reads_int Try.underlying3 m [v2] y2 cellsI_i64.symm h2
    cases e2
    obtain ⟨_, y3, h3⟩ := hm 3 _ v3 rfl rfl
    obtain ⟨b3, e3, w3⟩ := reads_int Try.underlying3 m [v3] y3 cellsI_i64.symm h3
    cases e3
    obtain ⟨_, y4, h4⟩ := hm 4 _ v4 rfl rfl
    obtain ⟨b4, e4, w4⟩ := reads_bool Try.underlying4 m [v4] y4 cellsB.symm h4
    cases e4
    exact ⟨⟨b0, b1, b2, b3, b4⟩, k50_mk w _, w0, w1, w2, w3⟩
def ok83 (a : S83) : Prop := (Lit.int .u8 a.f0).wf = true ∧ (Lit.int .u8 a.f1).wf = true ∧ (Lit.int .u8 a.f2).wf = true ∧ (Lit.int .u8 a.f3).wf = true
theorem cells83 : Try.prog.cellsOf 83 = 4 := by kernel_rfl
theorem reads83 : Reads enc Try.prog w base spare held 83 (fun (a : S83) cs => k83.K w a cs) ok83 := by
  intro n cs x hl h
  rw [cells83] at hl
  obtain ⟨m, hm⟩ := elem_at Try.underlying83 (by kernel_rfl) h
  match cs, hl with
  | [v0, v1, v2, v3], _ =>
    obtain ⟨y0, h0⟩ := hm 0 v0 (by omega) rfl
    obtain ⟨b0, e0, w0⟩ := reads_int Try.underlying5 m [v0] y0 cellsI_u8.symm h0
    cases e0
    obtain ⟨y1, h1⟩ := hm 1 v1 (by omega) rfl
    obtain ⟨b1, e1, w1⟩ := reads_int Try.underlying5 m [v1] y1 cellsI_u8.symm h1
    cases e1
    obtain ⟨y2, h2⟩ := hm 2 v2 (by omega) rfl
    obtain ⟨b2, e2, w2⟩ := reads_int Try.underlying5 m [v2] y2 cellsI_u8.symm h2
    cases e2
    obtain ⟨y3, h3⟩ := hm 3 v3 (by omega) rfl
    obtain ⟨b3, e3, w3⟩ := reads_int Try.underlying5 m [v3] y3 cellsI_u8.symm h3
    cases e3
    exact ⟨⟨b0, b1, b2, b3⟩, k83_mk w _, w0, w1, w2, w3⟩
end
end Go.Proofs.Ytpfiecjacpbhkaa.Ho

/- The pure statement of DocketOnce. Written by a program of this session's. -/
namespace Go.Proofs.Ytpfiecjacpbhkaa.D
open Go.RowKit
def insolvencylaw33_DocketOnce.Pure : Prop := ∀ (a0 : S22) (l1 : List Int) (l2 : List S83) (a3 : Int), Ho.ok22 a0 → l1.length ≤ maxLen → (∀ x ∈ l1, (Lit.int .u16 x).wf = true) → l2.length ≤ maxLen → (∀ x ∈ l2, Ho.ok83 x) → (Lit.int .u8 a3).wf = true → ∃ k, insolvencylaw33_DocketOnce.f k a0.f0 a0.f1 l1 l2 a3 = some true
end Go.Proofs.Ytpfiecjacpbhkaa.D
