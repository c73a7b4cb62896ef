/- Part 5 of 5 of the proof of DocketNew: texts of this claim put one behind the other by a program; each begins with its own words. -/
import Derived.SizedLaws
import Derived.ChangeSlices
import Derived.OpenShut
import Derived.Deep.Slices
import Derived.Deep.Fields
import Derived.ChangeSame
import Derived.ProofKit
import Derived.Test.YtpfiecjacpbhkaaRows
import Derived.WalkKit
import Derived.ShutString
import Derived.ChangeOld
import Derived.Below
import Derived.Carry
import Derived.Test.YtpfiecjacpbhkaaZDocketNew4
/- What the Go functions named below come to, each told as_ a Lean function ('.f'), with the proof ('.calls'): no condition beyond those that each theorem states. Written by a program of this session's over the translation. -/
namespace Go.Proofs.Ytpfiecjacpbhkaa.D
open Go.RowKit Go.Proofs.YtpfiecjacpbhkaaW.PrintWords Go.Proofs.YtpfiecjacpbhkaaW.PrintLast Go.Proofs.YtpfiecjacpbhkaaW.PrintMore
attribute [local go_sem] max2_int min2_int max_two min_two max_three min_three max_four min_four   -- for this text's walks alone
set_option linter.unusedVariables false
set_option linter.unusedSimpArgs false

/-! ### insolvencylaw33_DocketNew: function 5 -/
def insolvencylaw33_DocketNew.f (k : Nat) (a0 : Int) (a1_0 : Int) (a1_1 : Int) (l1_2 : List Int) (a2 : Int) (a3 : Int) (a4 : Int) : Option (Bool) := if (l1_2.length : Int) > 20 then ((insolvencylaw33_awake.f k).bind fun t262 => (some t262)) else (if 0 ≤ (wrap64 (990 + (wrap64 (Int.tmod a4 20)))) then (if (wrap64 (990 + (wrap64 (Int.tmod a4 20))) : Int).toNat ≤ 35184372088832 then ((some (List.replicate (wrap64 (990 + (wrap64 (Int.tmod a4 20))) : Int).toNat 0 : List Int)).bind fun y263 => ((docket_New.f k a0 a1_0 a1_1 l1_2).bind fun bt267 => ((insolvencyref33_NewDocket.f a0 a1_0 a1_1 l1_2).bind fun bt278 => ((docket_New.f k 5 (wrap64 (a2)) (wrap64 (a3)) y263).bind fun bt289 => ((insolvencyref33_NewDocket.f 5 (wrap64 (a2)) (wrap64 (a3)) y263).bind fun bt300 => ((insolvencylaw33_awake.f k).bind fun t311 => (if t311 = true then (if bt267.2.2.2.2.2 = bt278.2.2.2.2.2 then ((insolvencyref33_SameDocket.f k bt267.1 bt267.2.1 bt267.2.2.1 bt267.2.2.2.1 bt267.2.2.2.2.1 bt278.1 bt278.2.1 bt278.2.2.1 bt278.2.2.2.1 bt278.2.2.2.2.1).bind fun t312 => (if t312 = true then (if bt289.2.2.2.2.2 = bt300.2.2.2.2.2 then ((insolvencyref33_SameDocket.f k bt289.1 bt289.2.1 bt289.2.2.1 bt289.2.2.2.1 bt289.2.2.2.2.1 bt300.1 bt300.2.1 bt300.2.2.1 bt300.2.2.2.1 bt300.2.2.2.2.1).bind fun t313 => (some t313)) else (none)) else (none))) else (none)) else (none)))))))) else (none)) else (none))
theorem insolvencylaw33_DocketNew.mono : ∀ a0 a1 a2 a3 a4 a5 a6 k, LeO (insolvencylaw33_DocketNew.f k a0 a1 a2 a3 a4 a5 a6) (insolvencylaw33_DocketNew.f (k + 1) a0 a1 a2 a3 a4 a5 a6) := by
 intro a0 a1 a2 a3 a4 a5 a6 k
 unfold insolvencylaw33_DocketNew.f
 repeat' first
   | (with_reducible exact docket_New.mono _ _ _ _ _)
   | (with_reducible exact insolvencylaw33_awake.mono _)
   | (with_reducible exact insolvencyref33_SameDocket.mono _ _ _ _ _ _ _ _ _ _ _)
   | (with_reducible exact LeO.refl _)
   | (with_reducible exact LeO.none _)
   | (with_reducible refine LeO.ite ?_ ?_)
   | (with_reducible refine LeO.bind ?_ (fun _ => ?_))
   | exact docket_New.mono _ _ _ _ _
   | exact insolvencylaw33_awake.mono _
   | exact insolvencyref33_SameDocket.mono _ _ _ _ _ _ _ _ _ _ _
   | exact LeO.none _
   | refine LeO.ite ?_ ?_
   | refine LeO.bind ?_ (fun _ => ?_)
set_option maxHeartbeats 8000000 in
set_option maxRecDepth 100000 in
theorem insolvencylaw33_DocketNew.calls (k : Nat) (a0 : Int) (a1_0 : Int) (a1_1 : Int) (A1_2 : Option Addr) (c1_2 : Nat) (l1_2 : List Int) (a2 : Int) (a3 : Int) (a4 : Int) (r : Bool) (w : World) (hr1_2 : Kd.C (Kd.int .i64) w A1_2 l1_2.length l1_2) (hc1_2 : l1_2.length ≤ c1_2) (h : insolvencylaw33_DocketNew.f k a0 a1_0 a1_1 l1_2 a2 a3 a4 = some r) :
  Calls Try.prog 5 #[.int .i64 a0, .agg #[.int .i64 a1_0, .int .i64 a1_1, .slice A1_2 l1_2.length c1_2], .int .u8 a2, .int .u8 a3, .int .u16 a4] w fun e w' => e = .returned (.bool r) ∧ Below w.heap.size w w' := by
 have hu27 := Try.underlying27
 have hu30 := Try.underlying30
 have HR1_2 := Aside0.mk hr1_2
 have HC1_2 := Aside0.mk hc1_2
 clear hr1_2 hc1_2
 have HB := Aside0.mk (Below.refl w.heap.size w)
 have H : (if (l1_2.length : Int) > 20 then ((insolvencylaw33_awake.f k).bind fun t262 => (some t262)) else (if 0 ≤ (wrap64 (990 + (wrap64 (Int.tmod a4 20)))) then (if (wrap64 (990 + (wrap64 (Int.tmod a4 20))) : Int).toNat ≤ 35184372088832 then ((some (List.replicate (wrap64 (990 + (wrap64 (Int.tmod a4 20))) : Int).toNat 0 : List Int)).bind fun y263 => ((docket_New.f k a0 a1_0 a1_1 l1_2).bind fun bt267 => ((insolvencyref33_NewDocket.f a0 a1_0 a1_1 l1_2).bind fun bt278 => ((docket_New.f k 5 (wrap64 (a2)) (wrap64 (a3)) y263).bind fun bt289 => ((insolvencyref33_NewDocket.f 5 (wrap64 (a2)) (wrap64 (a3)) y263).bind fun bt300 => ((insolvencylaw33_awake.f k).bind fun t311 => (if t311 = true then (if bt267.2.2.2.2.2 = bt278.2.2.2.2.2 then ((insolvencyref33_SameDocket.f k bt267.1 bt267.2.1 bt267.2.2.1 bt267.2.2.2.1 bt267.2.2.2.2.1 bt278.1 bt278.2.1 bt278.2.2.1 bt278.2.2.2.1 bt278.2.2.2.2.1).bind fun t312 => (if t312 = true then (if bt289.2.2.2.2.2 = bt300.2.2.2.2.2 then ((insolvencyref33_SameDocket.f k bt289.1 bt289.2.1 bt289.2.2.1 bt289.2.2.2.1 bt289.2.2.2.2.1 bt300.1 bt300.2.1 bt300.2.2.1 bt300.2.2.2.1 bt300.2.2.2.2.1).bind fun t313 => (some t313)) else (none)) else (none))) else (none)) else (none)))))))) else (none)) else (none))) = some r := h
 clear h
 by_cases c6 : (l1_2.length : Int) > 20
 ·rw [if_pos c6] at H
  have c6b0 : decide (20 < (l1_2.length : Int)) = true := decide_eq_true c6
  have c6b1 : decide (20 < l1_2.length) = true := decide_eq_true (by omega)
  clear c6
  replace H := Option.bind_eq_some_iff.mp H
  obtain ⟨t262, A70, H⟩ := H
  replace H : (some t262) = some r := H
  have A7 := Aside0.mk A70
  clear A70
  obtain rfl := Option.some.inj H
  go_enter Try.func5, Try.ntmps5
  go_wp2_with (first | ((with_reducible refine gate_dst (N := 6) rfl ?_); refine box_event ?hg (N := 6) ?hd (cs := #[.int .i64 a1_0, .int .i64 a1_1, .slice A1_2 l1_2.length c1_2]) (t := 27) ?hr ?_; (case hd => rfl); (case hg => rfl); (case hr => first | (go_simp; done) | (go_simp; rfl)); intro gb261 hg w8 hbox hb; have n0_ := Aside0.mk (below_step (pB HB) hb); have n1_ := Aside0.mk (hbox); have n2_ := Aside0.mk ((by rw [hg]; exact (below_size (pB HB)) : w.heap.size ≤ gb261)); have n3_ := Aside0.mk ((by rw [hg]; exact (below_size (pB HB)) : w.heap.size ≤ gb261)); clear HB; have HB := n0_; have BK261 := n1_; have GW261 := n2_; have GE261 := n3_; clear n0_ n1_ n2_ n3_; clear hb hbox hg; obtain ⟨hcz9_0, hcz9_1, hcz9_2⟩ := cells3 BK261; obtain ⟨hfz9_0, hfz9_1, hfz9_2⟩ := frz3 BK261) | ((with_reducible refine gate_callee (f := 14) rfl ?_); refine goesL_ (some 24) rfl rfl Try.func14 (by kernel_rfl) rfl #[] rfl (by (try simp only [List.map_toArray, List.map_cons, List.map_nil]); first | done | rfl | (simp only [List.length_drop, List.length_take]; rfl)) ?_; (with_reducible refine (insolvencylaw33_awake.calls k  t262 _ A7.out).mono ?_); rintro e w10 ⟨rfl, hb⟩; refine ⟨_, rfl, ?_⟩; have n0_ := bB BK261 hb; have n1_ := Aside0.mk (below_step (pB HB) hb); clear BK261; clear HB; have BK261 := n0_; have HB := n1_; clear n0_ n1_; (try clear hb); (try clear hb2); (try clear hk); (try clear hi)))
  go_ret
  exact ⟨by first | rfl | (simp [errW_none, errW_some] <;> rfl) | (simp [*, errW_none, errW_some] <;> rfl), pB HB⟩
 ·rw [if_neg c6] at H
  have c6b0 : decide (20 < (l1_2.length : Int)) = false := decide_eq_false c6
  have c6b1 : decide (20 < l1_2.length) = false := decide_eq_false (by omega)
  clear c6
  obtain ⟨ji11, hji11⟩ : ∃ j_ : Int, (wrap64 (990 + (wrap64 (Int.tmod a4 20)))) = j_ := ⟨_, rfl⟩
  replace H : (if 0 ≤ (ji11) then (if (ji11 : Int).toNat ≤ 35184372088832 then ((some (List.replicate (ji11 : Int).toNat 0 : List Int)).bind fun y263 => ((docket_New.f k a0 a1_0 a1_1 l1_2).bind fun bt267 => ((insolvencyref33_NewDocket.f a0 a1_0 a1_1 l1_2).bind fun bt278 => ((docket_New.f k 5 (wrap64 (a2)) (wrap64 (a3)) y263).bind fun bt289 => ((insolvencyref33_NewDocket.f 5 (wrap64 (a2)) (wrap64 (a3)) y263).bind fun bt300 => ((insolvencylaw33_awake.f k).bind fun t311 => (if t311 = true then (if bt267.2.2.2.2.2 = bt278.2.2.2.2.2 then ((insolvencyref33_SameDocket.f k bt267.1 bt267.2.1 bt267.2.2.1 bt267.2.2.2.1 bt267.2.2.2.2.1 bt278.1 bt278.2.1 bt278.2.2.1 bt278.2.2.2.1 bt278.2.2.2.2.1).bind fun t312 => (if t312 = true then (if bt289.2.2.2.2.2 = bt300.2.2.2.2.2 then ((insolvencyref33_SameDocket.f k bt289.1 bt289.2.1 bt289.2.2.1 bt289.2.2.2.1 bt289.2.2.2.2.1 bt300.1 bt300.2.1 bt300.2.2.1 bt300.2.2.2.1 bt300.2.2.2.2.1).bind fun t313 => (some t313)) else (none)) else (none))) else (none)) else (none)))))))) else (none)) else (none)) = some r := by first | (rw [hji11] at H; exact H) | (simp only [hji11] at H ⊢; exact H)
  have hji11w : (IntKind.i64.wrap (990 + (wrap64 (Int.tmod a4 20)))) = ji11 := (i64_w _).trans hji11
  by_cases c12 : 0 ≤ (ji11)
  ·rw [if_pos c12] at H
   have c12b0 := eq_true c12
   have c12b1 : decide (0 ≤ (ji11)) = true := decide_eq_true c12
   clear c12
   by_cases c13 : (ji11 : Int).toNat ≤ 35184372088832
   ·rw [if_pos c13] at H
    have c13b0 := eq_true c13
    have c13b1 : decide ((ji11 : Int).toNat ≤ 35184372088832) = true := decide_eq_true c13
    clear c13
    obtain ⟨y263, hy263⟩ : ∃ y_ : List Int, y_ = (List.replicate (ji11 : Int).toNat 0) := ⟨_, rfl⟩
    replace H : ((docket_New.f k a0 a1_0 a1_1 l1_2).bind fun bt267 => ((insolvencyref33_NewDocket.f a0 a1_0 a1_1 l1_2).bind fun bt278 => ((docket_New.f k 5 (wrap64 (a2)) (wrap64 (a3)) y263).bind fun bt289 => ((insolvencyref33_NewDocket.f 5 (wrap64 (a2)) (wrap64 (a3)) y263).bind fun bt300 => ((insolvencylaw33_awake.f k).bind fun t311 => (if t311 = true then (if bt267.2.2.2.2.2 = bt278.2.2.2.2.2 then ((insolvencyref33_SameDocket.f k bt267.1 bt267.2.1 bt267.2.2.1 bt267.2.2.2.1 bt267.2.2.2.2.1 bt278.1 bt278.2.1 bt278.2.2.1 bt278.2.2.2.1 bt278.2.2.2.2.1).bind fun t312 => (if t312 = true then (if bt289.2.2.2.2.2 = bt300.2.2.2.2.2 then ((insolvencyref33_SameDocket.f k bt289.1 bt289.2.1 bt289.2.2.1 bt289.2.2.2.1 bt289.2.2.2.2.1 bt300.1 bt300.2.1 bt300.2.2.1 bt300.2.2.2.1 bt300.2.2.2.2.1).bind fun t313 => (some t313)) else (none)) else (none))) else (none)) else (none))))))) = some r := by first | (rw [hy263]; with_reducible exact H) | (have H2_ := (Option.bind_some _ _).symm.trans H; rw [hy263]; with_reducible exact H2_) | (have H2_ := (Option.bind_some _ _).symm.trans H; with_reducible exact H2_) | with_reducible exact H | (rw [hy263]; exact H) | exact H
    have Ny263 := Aside0.mk hy263
    clear hy263
    replace H := Option.bind_eq_some_iff.mp H
    obtain ⟨⟨t267, t268, t269, t270, t273, t276⟩, A140, H⟩ := H
    replace H : ((insolvencyref33_NewDocket.f a0 a1_0 a1_1 l1_2).bind fun bt278 => ((docket_New.f k 5 (wrap64 (a2)) (wrap64 (a3)) y263).bind fun bt289 => ((insolvencyref33_NewDocket.f 5 (wrap64 (a2)) (wrap64 (a3)) y263).bind fun bt300 => ((insolvencylaw33_awake.f k).bind fun t311 => (if t311 = true then (if t276 = bt278.2.2.2.2.2 then ((insolvencyref33_SameDocket.f k t267 t268 t269 t270 t273 bt278.1 bt278.2.1 bt278.2.2.1 bt278.2.2.2.1 bt278.2.2.2.2.1).bind fun t312 => (if t312 = true then (if bt289.2.2.2.2.2 = bt300.2.2.2.2.2 then ((insolvencyref33_SameDocket.f k bt289.1 bt289.2.1 bt289.2.2.1 bt289.2.2.2.1 bt289.2.2.2.2.1 bt300.1 bt300.2.1 bt300.2.2.1 bt300.2.2.2.1 bt300.2.2.2.2.1).bind fun t313 => (some t313)) else (none)) else (none))) else (none)) else (none)))))) = some r := H
    have A14 := Aside0.mk A140
    clear A140
    replace H := Option.bind_eq_some_iff.mp H
    obtain ⟨⟨t278, t279, t280, t281, t284, t287⟩, A150, H⟩ := H
    replace H : ((docket_New.f k 5 (wrap64 (a2)) (wrap64 (a3)) y263).bind fun bt289 => ((insolvencyref33_NewDocket.f 5 (wrap64 (a2)) (wrap64 (a3)) y263).bind fun bt300 => ((insolvencylaw33_awake.f k).bind fun t311 => (if t311 = true then (if t276 = t287 then ((insolvencyref33_SameDocket.f k t267 t268 t269 t270 t273 t278 t279 t280 t281 t284).bind fun t312 => (if t312 = true then (if bt289.2.2.2.2.2 = bt300.2.2.2.2.2 then ((insolvencyref33_SameDocket.f k bt289.1 bt289.2.1 bt289.2.2.1 bt289.2.2.2.1 bt289.2.2.2.2.1 bt300.1 bt300.2.1 bt300.2.2.1 bt300.2.2.2.1 bt300.2.2.2.2.1).bind fun t313 => (some t313)) else (none)) else (none))) else (none)) else (none))))) = some r := H
    have A15 := Aside0.mk A150
    clear A150
    replace H := Option.bind_eq_some_iff.mp H
    obtain ⟨⟨t289, t290, t291, t292, t295, t298⟩, A160, H⟩ := H
    replace H : ((insolvencyref33_NewDocket.f 5 (wrap64 (a2)) (wrap64 (a3)) y263).bind fun bt300 => ((insolvencylaw33_awake.f k).bind fun t311 => (if t311 = true then (if t276 = t287 then ((insolvencyref33_SameDocket.f k t267 t268 t269 t270 t273 t278 t279 t280 t281 t284).bind fun t312 => (if t312 = true then (if t298 = bt300.2.2.2.2.2 then ((insolvencyref33_SameDocket.f k t289 t290 t291 t292 t295 bt300.1 bt300.2.1 bt300.2.2.1 bt300.2.2.2.1 bt300.2.2.2.2.1).bind fun t313 => (some t313)) else (none)) else (none))) else (none)) else (none)))) = some r := H
    have A16 := Aside0.mk A160
    clear A160
    replace H := Option.bind_eq_some_iff.mp H
    obtain ⟨⟨t300, t301, t302, t303, t306, t309⟩, A170, H⟩ := H
    replace H : ((insolvencylaw33_awake.f k).bind fun t311 => (if t311 = true then (if t276 = t287 then ((insolvencyref33_SameDocket.f k t267 t268 t269 t270 t273 t278 t279 t280 t281 t284).bind fun t312 => (if t312 = true then (if t298 = t309 then ((insolvencyref33_SameDocket.f k t289 t290 t291 t292 t295 t300 t301 t302 t303 t306).bind fun t313 => (some t313)) else (none)) else (none))) else (none)) else (none))) = some r := H
    have A17 := Aside0.mk A170
    clear A170
    replace H := Option.bind_eq_some_iff.mp H
    obtain ⟨t311, A180, H⟩ := H
    replace H : (if t311 = true then (if t276 = t287 then ((insolvencyref33_SameDocket.f k t267 t268 t269 t270 t273 t278 t279 t280 t281 t284).bind fun t312 => (if t312 = true then (if t298 = t309 then ((insolvencyref33_SameDocket.f k t289 t290 t291 t292 t295 t300 t301 t302 t303 t306).bind fun t313 => (some t313)) else (none)) else (none))) else (none)) else (none)) = some r := H
    have A18 := Aside0.mk A180
    clear A180
    by_cases c19 : t311 = true
    ·subst c19
     have H1 : (if t276 = t287 then ((insolvencyref33_SameDocket.f k t267 t268 t269 t270 t273 t278 t279 t280 t281 t284).bind fun t312 => (if t312 = true then (if t298 = t309 then ((insolvencyref33_SameDocket.f k t289 t290 t291 t292 t295 t300 t301 t302 t303 t306).bind fun t313 => (some t313)) else (none)) else (none))) else (none)) = some r := by rw [if_pos rfl] at H; exact H
     clear H
     have H := H1
     clear H1
     by_cases c20 : t276 = t287
     ·rw [if_pos c20] at H
      have c20b0 : (t276 == t287) = true := beq_iff_eq.mpr c20
      have c20b1 : (t276 != t287) = false := bne_eq_false_iff_eq.mpr c20
      clear c20
      replace H := Option.bind_eq_some_iff.mp H
      obtain ⟨t312, A210, H⟩ := H
      replace H : (if t312 = true then (if t298 = t309 then ((insolvencyref33_SameDocket.f k t289 t290 t291 t292 t295 t300 t301 t302 t303 t306).bind fun t313 => (some t313)) else (none)) else (none)) = some r := H
      have A21 := Aside0.mk A210
      clear A210
      by_cases c22 : t312 = true
      ·subst c22
       have H1 : (if t298 = t309 then ((insolvencyref33_SameDocket.f k t289 t290 t291 t292 t295 t300 t301 t302 t303 t306).bind fun t313 => (some t313)) else (none)) = some r := by rw [if_pos rfl] at H; exact H
       clear H
       have H := H1
       clear H1
       by_cases c23 : t298 = t309
       ·rw [if_pos c23] at H
        have c23b0 : (t298 == t309) = true := beq_iff_eq.mpr c23
        have c23b1 : (t298 != t309) = false := bne_eq_false_iff_eq.mpr c23
        clear c23
        replace H := Option.bind_eq_some_iff.mp H
        obtain ⟨t313, A240, H⟩ := H
        replace H : (some t313) = some r := H
        have A24 := Aside0.mk A240
        clear A240
        obtain rfl := Option.some.inj H
        go_enter Try.func5, Try.ntmps5
        go_wp2_with (first | ((with_reducible refine gate_dst (N := 6) rfl ?_); refine box_event ?hg (N := 6) ?hd (cs := #[.int .i64 a1_0, .int .i64 a1_1, .slice A1_2 l1_2.length c1_2]) (t := 27) ?hr ?_; (case hd => rfl); (case hg => rfl); (case hr => first | (go_simp; done) | (go_simp; rfl)); intro gb261 hg w25 hbox hb; have n0_ := Aside0.mk (below_step (pB HB) hb); have n1_ := Aside0.mk (hbox); have n2_ := Aside0.mk ((by rw [hg]; exact (below_size (pB HB)) : w.heap.size ≤ gb261)); have n3_ := Aside0.mk ((by rw [hg]; exact (below_size (pB HB)) : w.heap.size ≤ gb261)); clear HB; have HB := n0_; have BK261 := n1_; have GW261 := n2_; have GE261 := n3_; clear n0_ n1_ n2_ n3_; clear hb hbox hg; obtain ⟨hcz26_0, hcz26_1, hcz26_2⟩ := cells3 BK261; obtain ⟨hfz26_0, hfz26_1, hfz26_2⟩ := frz3 BK261) | ((with_reducible refine gate_dst (N := 33) rfl ?_); refine Kd.R_make (Kd.int .i64) _ 3 rfl (N := 33) rfl 25 _ _ rfl ji11 rfl rfl Try.underlying25 (.int .i64 0) 8 info3 rfl (by decide) (by omega) 0 (ok := fun _ => True) (okp := fun _ => True) rfl (fun _ hk => hk) trivial (of_decide_eq_true (by first | (with_reducible assumption) | assumption)) (Nat.le_trans (Nat.mul_le_mul_right _ (of_decide_eq_true (by first | (with_reducible assumption) | assumption) : ji11.toNat ≤ 35184372088832)) (by omega)) (Below.refl _ _) (Nat.le_refl _) ?_; intro v264 w27 ho28 hb hg_ hnew_; clear hg_ hnew_; (first | rw [← Ny263.out] at ho28 | (simp only [Int.reduceToNat] at ho28; rw [← Ny263.out] at ho28)); have n0_ := Aside0.mk (Kd.R_lower ho28 (below_size (pB HB))); have n1_ := bB BK261 hb; have n2_ := Aside0.mk (below_step (pB HB) hb); clear BK261; clear HB; have HO265 := n0_; have BK261 := n1_; have HB := n2_; clear n0_ n1_ n2_; clear hb ho28; obtain ⟨Ao29, co29, eo29⟩ := Kd.R_slice HO265.out; subst eo29) | ((with_reducible refine gate_dst (N := 11) rfl ?_); refine box_event ?hg (N := 11) ?hd (cs := #[.int .i64 0, .int .i64 0, .slice none 0 0]) (t := 27) ?hr ?_; (case hd => rfl); (case hg => rfl); (case hr => first | (go_simp; done) | (go_simp; rfl)); intro gb266 hg w30 hbox hb; have n0_ := rB HO265 hb; have n1_ := bB BK261 hb; have n2_ := Aside0.mk (below_step (pB HB) hb); have n3_ := Aside0.mk (hbox); have n4_ := Aside0.mk ((by rw [hg]; exact (below_size (pB HB)) : w.heap.size ≤ gb266)); have n5_ := Aside0.mk ((by rw [hg]; exact (below_size (pB HB)) : w.heap.size ≤ gb266)); have n6_ := Aside0.mk ((by rw [hg]; exact Nat.ne_of_lt (blk_lt (g := gb261) (o := .cells #[.int .i64 a1_0, .int .i64 a1_1, .slice A1_2 l1_2.length c1_2] 27 (0, 0)) (by (with_reducible repeat (first | refine blk_drewN ?_ _ | refine blk_drew ?_ | refine blk_alloc ?_ _)); exact BK261.out)) : gb261 ≠ gb266)); have n7_ := Aside0.mk ((by rw [hg]; exact Nat.ne_of_gt (blk_lt (g := gb261) (o := .cells #[.int .i64 a1_0, .int .i64 a1_1, .slice A1_2 l1_2.length c1_2] 27 (0, 0)) (by (with_reducible repeat (first | refine blk_drewN ?_ _ | refine blk_drew ?_ | refine blk_alloc ?_ _)); exact BK261.out)) : gb266 ≠ gb261)); clear HO265; clear BK261; clear HB; have HO265 := n0_; have BK261 := n1_; have HB := n2_; have BK266 := n3_; have GW266 := n4_; have GE266 := n5_; have NB261_266 := n6_; have NB266_261 := n7_; clear n0_ n1_ n2_ n3_ n4_ n5_ n6_ n7_; clear hb hbox hg; have hnb31 := NB266_261.out; have hnc31 := NB261_266.out; obtain ⟨hcz32_0, hcz32_1, hcz32_2⟩ := cells3 BK266; obtain ⟨hfz32_0, hfz32_1, hfz32_2⟩ := frz3 BK266; obtain ⟨hcz33_0, hcz33_1, hcz33_2⟩ := cells3 BK261; obtain ⟨hfz33_0, hfz33_1, hfz33_2⟩ := frz3 BK261) | ((with_reducible refine gate_callee (f := 17) rfl ?_); refine goesL_ (some 38) rfl rfl Try.func17 (by kernel_rfl) rfl #[.int .i64 a0, .agg #[.int .i64 a1_0, .int .i64 a1_1, .slice A1_2 l1_2.length c1_2]] rfl (by (try simp only [List.map_toArray, List.map_cons, List.map_nil]); first | done | rfl | (simp only [List.length_drop, List.length_take]; rfl)) ?_; (with_reducible refine (docket_New.calls k a0 a1_0 a1_1 _ _ l1_2 t267 t268 t269 t270 t273 t276 _ ?side1 ?side2 A14.out).mono ?_); (case side1 => exact Kd.C_below HR1_2.out (pB HB)); (case side2 => exact HC1_2.out); rintro e w34 ⟨v271, v274, rfl, ho0, ho1, hb⟩; refine ⟨_, rfl, ?_⟩; have n0_ := Aside0.mk (Kd.R_elder' (by (with_reducible repeat (first | apply Kd.R_alloc | apply Kd.R_drewN | apply Kd.R_drew)); exact (Kd.R_mono (Kd.R_far (p := ⟨gb266, 2, none⟩) (Kd.R_far (p := ⟨gb266, 1, none⟩) (Kd.R_far (p := ⟨gb266, 0, none⟩) (Kd.R_types HO265.out BK266.out (by decide)) (fun _ hk => hk.2) (.int .i64 (wrap64 (a2)))) (fun _ hk => hk.2) (.int .i64 (wrap64 (a3)))) (fun _ hk => hk.2) (.slice Ao29 y263.length co29)) (fun _ h_ => h_.1))) (Kd.R_base ho0) hb); have n1_ := Aside0.mk (Kd.R_lower (Kd.R_new' ho0 (Kd.R_lt (by (with_reducible repeat (first | apply Kd.R_alloc | apply Kd.R_drewN | apply Kd.R_drew)); exact (Kd.R_mono (Kd.R_far (p := ⟨gb266, 2, none⟩) (Kd.R_far (p := ⟨gb266, 1, none⟩) (Kd.R_far (p := ⟨gb266, 0, none⟩) (Kd.R_types HO265.out BK266.out (by decide)) (fun _ hk => hk.2) (.int .i64 (wrap64 (a2)))) (fun _ hk => hk.2) (.int .i64 (wrap64 (a3)))) (fun _ hk => hk.2) (.slice Ao29 y263.length co29)) (fun _ h_ => h_.1))))) (below_size (pB HB))); have n2_ := Aside0.mk (Kd.R_lower ho1 (below_size (pB HB))); have n3_ := Aside0.mk (blk_below (g := gb261) (o := .cells #[.int .i64 a1_0, .int .i64 a1_1, .slice A1_2 l1_2.length c1_2] 27 (0, 0)) (by (with_reducible repeat (first | refine blk_drewN ?_ _ | refine blk_drew ?_ | refine blk_alloc ?_ _)); refine blk_far ?_ NB261_266.out _; (with_reducible repeat (first | refine blk_drewN ?_ _ | refine blk_drew ?_ | refine blk_alloc ?_ _)); refine blk_far ?_ NB261_266.out _; (with_reducible repeat (first | refine blk_drewN ?_ _ | refine blk_drew ?_ | refine blk_alloc ?_ _)); refine blk_far ?_ NB261_266.out _; (with_reducible repeat (first | refine blk_drewN ?_ _ | refine blk_drew ?_ | refine blk_alloc ?_ _)); exact BK261.out) hb); have n4_ := Aside0.mk (blk_below (g := gb266) (o := .cells #[.int .i64 (wrap64 (a2)), .int .i64 (wrap64 (a3)), .slice Ao29 y263.length co29] 27 (0, 0)) (by (with_reducible repeat (first | refine blk_drewN ?_ _ | refine blk_drew ?_ | refine blk_alloc ?_ _)); refine blk_put (cs := #[.int .i64 (wrap64 (a2)), .int .i64 (wrap64 (a3)), .slice none 0 0]) ?_ 2 _ rfl; (with_reducible repeat (first | refine blk_drewN ?_ _ | refine blk_drew ?_ | refine blk_alloc ?_ _)); refine blk_put (cs := #[.int .i64 (wrap64 (a2)), .int .i64 0, .slice none 0 0]) ?_ 1 _ rfl; (with_reducible repeat (first | refine blk_drewN ?_ _ | refine blk_drew ?_ | refine blk_alloc ?_ _)); refine blk_put (cs := #[.int .i64 0, .int .i64 0, .slice none 0 0]) ?_ 0 _ rfl; (with_reducible repeat (first | refine blk_drewN ?_ _ | refine blk_drew ?_ | refine blk_alloc ?_ _)); exact BK266.out) hb); have n5_ := Aside0.mk (below_step (pB HB) hb); clear HO265; clear BK261; clear BK266; clear HB; have HO265 := n0_; have HO272 := n1_; have HO275 := n2_; have BK261 := n3_; have BK266 := n4_; have HB := n5_; clear n0_ n1_ n2_ n3_ n4_ n5_; (try clear hb); (try clear hb2); (try clear hk); (try clear hi); (try clear ho0); (try clear ho1)) | ((with_reducible refine gate_dst (N := 12) rfl ?_); refine box_event ?hg (N := 12) ?hd (cs := #[.int .i64 0, .int .i64 0, .int .i64 0, .slice none 0 0, .slice none 0 0]) (t := 30) ?hr ?_; (case hd => rfl); (case hg => rfl); (case hr => first | (go_simp; done) | (go_simp; rfl)); intro gb277 hg w35 hbox hb; have n0_ := rB HO265 hb; have n1_ := rB HO272 hb; have n2_ := rB HO275 hb; have n3_ := bB BK261 hb; have n4_ := bB BK266 hb; have n5_ := Aside0.mk (below_step (pB HB) hb); have n6_ := Aside0.mk (hbox); have n7_ := Aside0.mk ((by rw [hg]; exact (below_size (pB HB)) : w.heap.size ≤ gb277)); have n8_ := Aside0.mk ((by rw [hg]; exact (below_size (pB HB)) : w.heap.size ≤ gb277)); have n9_ := Aside0.mk ((by rw [hg]; exact Nat.ne_of_lt (blk_lt (g := gb261) (o := .cells #[.int .i64 a1_0, .int .i64 a1_1, .slice A1_2 l1_2.length c1_2] 27 (0, 0)) (by (with_reducible repeat (first | refine blk_drewN ?_ _ | refine blk_drew ?_ | refine blk_alloc ?_ _)); exact BK261.out)) : gb261 ≠ gb277)); have n10_ := Aside0.mk ((by rw [hg]; exact Nat.ne_of_gt (blk_lt (g := gb261) (o := .cells #[.int .i64 a1_0, .int .i64 a1_1, .slice A1_2 l1_2.length c1_2] 27 (0, 0)) (by (with_reducible repeat (first | refine blk_drewN ?_ _ | refine blk_drew ?_ | refine blk_alloc ?_ _)); exact BK261.out)) : gb277 ≠ gb261)); have n11_ := Aside0.mk ((by rw [hg]; exact Nat.ne_of_lt (blk_lt (g := gb266) (o := .cells #[.int .i64 (wrap64 (a2)), .int .i64 (wrap64 (a3)), .slice Ao29 y263.length co29] 27 (0, 0)) (by (with_reducible repeat (first | refine blk_drewN ?_ _ | refine blk_drew ?_ | refine blk_alloc ?_ _)); exact BK266.out)) : gb266 ≠ gb277)); have n12_ := Aside0.mk ((by rw [hg]; exact Nat.ne_of_gt (blk_lt (g := gb266) (o := .cells #[.int .i64 (wrap64 (a2)), .int .i64 (wrap64 (a3)), .slice Ao29 y263.length co29] 27 (0, 0)) (by (with_reducible repeat (first | refine blk_drewN ?_ _ | refine blk_drew ?_ | refine blk_alloc ?_ _)); exact BK266.out)) : gb277 ≠ gb266)); clear HO265; clear HO272; clear HO275; clear BK261; clear BK266; clear HB; have HO265 := n0_; have HO272 := n1_; have HO275 := n2_; have BK261 := n3_; have BK266 := n4_; have HB := n5_; have BK277 := n6_; have GW277 := n7_; have GE277 := n8_; have NB261_277 := n9_; have NB277_261 := n10_; have NB266_277 := n11_; have NB277_266 := n12_; clear n0_ n1_ n2_ n3_ n4_ n5_ n6_ n7_ n8_ n9_ n10_ n11_ n12_; clear hb hbox hg; have hnb36 := NB277_261.out; have hnc36 := NB261_277.out; have hnb37 := NB277_266.out; have hnc37 := NB266_277.out; obtain ⟨hcz38_0, hcz38_1, hcz38_2, hcz38_3, hcz38_4⟩ := cells5 BK277; obtain ⟨hfz38_0, hfz38_1, hfz38_2, hfz38_3, hfz38_4⟩ := frz5 BK277; obtain ⟨Ao39, co39, eo39⟩ := Kd.R_slice HO272.out; subst eo39; obtain ⟨Ao40, co40, eo40⟩ := Kd.R_slice HO275.out; subst eo40; obtain ⟨hcz41_0, hcz41_1, hcz41_2⟩ := cells3 BK261; obtain ⟨hfz41_0, hfz41_1, hfz41_2⟩ := frz3 BK261) | ((with_reducible refine gate_callee (f := 22) rfl ?_); refine goesL_ (some 44) rfl rfl Try.func22 (by kernel_rfl) rfl #[.int .i64 a0, .agg #[.int .i64 a1_0, .int .i64 a1_1, .slice A1_2 l1_2.length c1_2]] rfl (by (try simp only [List.map_toArray, List.map_cons, List.map_nil]); first | done | rfl | (simp only [List.length_drop, List.length_take]; rfl)) ?_; (with_reducible refine (insolvencyref33_NewDocket.calls a0 a1_0 a1_1 _ _ l1_2 t278 t279 t280 t281 t284 t287 _ ?side1 ?side2 A15.out).mono ?_); (case side1 => exact Kd.C_below HR1_2.out (pB HB)); (case side2 => exact HC1_2.out); rintro e w42 ⟨v282, v285, rfl, ho0, ho1, hb⟩; refine ⟨_, rfl, ?_⟩; have n0_ := Aside0.mk (Kd.R_elder' (by (with_reducible repeat (first | apply Kd.R_alloc | apply Kd.R_drewN | apply Kd.R_drew)); exact (Kd.R_mono (Kd.R_far (p := ⟨gb277, 4, none⟩) (Kd.R_far (p := ⟨gb277, 3, none⟩) (Kd.R_far (p := ⟨gb277, 2, none⟩) (Kd.R_far (p := ⟨gb277, 1, none⟩) (Kd.R_far (p := ⟨gb277, 0, none⟩) (Kd.R_types HO265.out BK277.out (by decide)) (fun _ hk => hk.2) (.int .i64 t267)) (fun _ hk => hk.2) (.int .i64 t268)) (fun _ hk => hk.2) (.int .i64 t269)) (fun _ hk => hk.2) (.slice Ao39 t270.length co39)) (fun _ hk => hk.2) (.slice Ao40 t273.length co40)) (fun _ h_ => h_.1))) (Kd.R_base ho0) hb); have n1_ := Aside0.mk (Kd.R_elder' (by (with_reducible repeat (first | apply Kd.R_alloc | apply Kd.R_drewN | apply Kd.R_drew)); exact (Kd.R_mono (Kd.R_far (p := ⟨gb277, 4, none⟩) (Kd.R_far (p := ⟨gb277, 3, none⟩) (Kd.R_far (p := ⟨gb277, 2, none⟩) (Kd.R_far (p := ⟨gb277, 1, none⟩) (Kd.R_far (p := ⟨gb277, 0, none⟩) (Kd.R_types HO272.out BK277.out (by decide)) (fun _ hk => hk.2) (.int .i64 t267)) (fun _ hk => hk.2) (.int .i64 t268)) (fun _ hk => hk.2) (.int .i64 t269)) (fun _ hk => hk.2) (.slice Ao39 t270.length co39)) (fun _ hk => hk.2) (.slice Ao40 t273.length co40)) (fun _ h_ => h_.1))) (Kd.R_base ho0) hb); have n2_ := Aside0.mk (Kd.R_elder' (by (with_reducible repeat (first | apply Kd.R_alloc | apply Kd.R_drewN | apply Kd.R_drew)); exact (Kd.R_mono (Kd.R_far (p := ⟨gb277, 4, none⟩) (Kd.R_far (p := ⟨gb277, 3, none⟩) (Kd.R_far (p := ⟨gb277, 2, none⟩) (Kd.R_far (p := ⟨gb277, 1, none⟩) (Kd.R_far (p := ⟨gb277, 0, none⟩) (Kd.R_types HO275.out BK277.out (by decide)) (fun _ hk => hk.2) (.int .i64 t267)) (fun _ hk => hk.2) (.int .i64 t268)) (fun _ hk => hk.2) (.int .i64 t269)) (fun _ hk => hk.2) (.slice Ao39 t270.length co39)) (fun _ hk => hk.2) (.slice Ao40 t273.length co40)) (fun _ h_ => h_.1))) (Kd.R_base ho1) hb); have n3_ := Aside0.mk (Kd.R_lower (Kd.R_new' (Kd.R_new' ho0 (Kd.R_lt (by (with_reducible repeat (first | apply Kd.R_alloc | apply Kd.R_drewN | apply Kd.R_drew)); exact (Kd.R_mono (Kd.R_far (p := ⟨gb277, 4, none⟩) (Kd.R_far (p := ⟨gb277, 3, none⟩) (Kd.R_far (p := ⟨gb277, 2, none⟩) (Kd.R_far (p := ⟨gb277, 1, none⟩) (Kd.R_far (p := ⟨gb277, 0, none⟩) (Kd.R_types HO265.out BK277.out (by decide)) (fun _ hk => hk.2) (.int .i64 t267)) (fun _ hk => hk.2) (.int .i64 t268)) (fun _ hk => hk.2) (.int .i64 t269)) (fun _ hk => hk.2) (.slice Ao39 t270.length co39)) (fun _ hk => hk.2) (.slice Ao40 t273.length co40)) (fun _ h_ => h_.1))))) (Kd.R_lt (by (with_reducible repeat (first | apply Kd.R_alloc | apply Kd.R_drewN | apply Kd.R_drew)); exact (Kd.R_mono (Kd.R_far (p := ⟨gb277, 4, none⟩) (Kd.R_far (p := ⟨gb277, 3, none⟩) (Kd.R_far (p := ⟨gb277, 2, none⟩) (Kd.R_far (p := ⟨gb277, 1, none⟩) (Kd.R_far (p := ⟨gb277, 0, none⟩) (Kd.R_types HO272.out BK277.out (by decide)) (fun _ hk => hk.2) (.int .i64 t267)) (fun _ hk => hk.2) (.int .i64 t268)) (fun _ hk => hk.2) (.int .i64 t269)) (fun _ hk => hk.2) (.slice Ao39 t270.length co39)) (fun _ hk => hk.2) (.slice Ao40 t273.length co40)) (fun _ h_ => h_.1))))) (below_size (pB HB))); have n4_ := Aside0.mk (Kd.R_lower (Kd.R_new' ho1 (Kd.R_lt (by (with_reducible repeat (first | apply Kd.R_alloc | apply Kd.R_drewN | apply Kd.R_drew)); exact (Kd.R_mono (Kd.R_far (p := ⟨gb277, 4, none⟩) (Kd.R_far (p := ⟨gb277, 3, none⟩) (Kd.R_far (p := ⟨gb277, 2, none⟩) (Kd.R_far (p := ⟨gb277, 1, none⟩) (Kd.R_far (p := ⟨gb277, 0, none⟩) (Kd.R_types HO275.out BK277.out (by decide)) (fun _ hk => hk.2) (.int .i64 t267)) (fun _ hk => hk.2) (.int .i64 t268)) (fun _ hk => hk.2) (.int .i64 t269)) (fun _ hk => hk.2) (.slice Ao39 t270.length co39)) (fun _ hk => hk.2) (.slice Ao40 t273.length co40)) (fun _ h_ => h_.1))))) (below_size (pB HB))); have n5_ := Aside0.mk (blk_below (g := gb261) (o := .cells #[.int .i64 a1_0, .int .i64 a1_1, .slice A1_2 l1_2.length c1_2] 27 (0, 0)) (by (with_reducible repeat (first | refine blk_drewN ?_ _ | refine blk_drew ?_ | refine blk_alloc ?_ _)); refine blk_far ?_ NB261_277.out _; (with_reducible repeat (first | refine blk_drewN ?_ _ | refine blk_drew ?_ | refine blk_alloc ?_ _)); refine blk_far ?_ NB261_277.out _; (with_reducible repeat (first | refine blk_drewN ?_ _ | refine blk_drew ?_ | refine blk_alloc ?_ _)); refine blk_far ?_ NB261_277.out _; (with_reducible repeat (first | refine blk_drewN ?_ _ | refine blk_drew ?_ | refine blk_alloc ?_ _)); refine blk_far ?_ NB261_277.out _; (with_reducible repeat (first | refine blk_drewN ?_ _ | refine blk_drew ?_ | refine blk_alloc ?_ _)); refine blk_far ?_ NB261_277.out _; (with_reducible repeat (first | refine blk_drewN ?_ _ | refine blk_drew ?_ | refine blk_alloc ?_ _)); exact BK261.out) hb); have n6_ := Aside0.mk (blk_below (g := gb266) (o := .cells #[.int .i64 (wrap64 (a2)), .int .i64 (wrap64 (a3)), .slice Ao29 y263.length co29] 27 (0, 0)) (by (with_reducible repeat (first | refine blk_drewN ?_ _ | refine blk_drew ?_ | refine blk_alloc ?_ _)); refine blk_far ?_ NB266_277.out _; (with_reducible repeat (first | refine blk_drewN ?_ _ | refine blk_drew ?_ | refine blk_alloc ?_ _)); refine blk_far ?_ NB266_277.out _; (with_reducible repeat (first | refine blk_drewN ?_ _ | refine blk_drew ?_ | refine blk_alloc ?_ _)); refine blk_far ?_ NB266_277.out _; (with_reducible repeat (first | refine blk_drewN ?_ _ | refine blk_drew ?_ | refine blk_alloc ?_ _)); refine blk_far ?_ NB266_277.out _; (with_reducible repeat (first | refine blk_drewN ?_ _ | refine blk_drew ?_ | refine blk_alloc ?_ _)); refine blk_far ?_ NB266_277.out _; (with_reducible repeat (first | refine blk_drewN ?_ _ | refine blk_drew ?_ | refine blk_alloc ?_ _)); exact BK266.out) hb); have n7_ := Aside0.mk (blk_below (g := gb277) (o := .cells #[.int .i64 t267, .int .i64 t268, .int .i64 t269, .slice Ao39 t270.length co39, .slice Ao40 t273.length co40] 30 (0, 0)) (by (with_reducible repeat (first | refine blk_drewN ?_ _ | refine blk_drew ?_ | refine blk_alloc ?_ _)); refine blk_put (cs := #[.int .i64 t267, .int .i64 t268, .int .i64 t269, .slice Ao39 t270.length co39, .slice none 0 0]) ?_ 4 _ rfl; (with_reducible repeat (first | refine blk_drewN ?_ _ | refine blk_drew ?_ | refine blk_alloc ?_ _)); refine blk_put (cs := #[.int .i64 t267, .int .i64 t268, .int .i64 t269, .slice none 0 0, .slice none 0 0]) ?_ 3 _ rfl; (with_reducible repeat (first | refine blk_drewN ?_ _ | refine blk_drew ?_ | refine blk_alloc ?_ _)); refine blk_put (cs := #[.int .i64 t267, .int .i64 t268, .int .i64 0, .slice none 0 0, .slice none 0 0]) ?_ 2 _ rfl; (with_reducible repeat (first | refine blk_drewN ?_ _ | refine blk_drew ?_ | refine blk_alloc ?_ _)); refine blk_put (cs := #[.int .i64 t267, .int .i64 0, .int .i64 0, .slice none 0 0, .slice none 0 0]) ?_ 1 _ rfl; (with_reducible repeat (first | refine blk_drewN ?_ _ | refine blk_drew ?_ | refine blk_alloc ?_ _)); refine blk_put (cs := #[.int .i64 0, .int .i64 0, .int .i64 0, .slice none 0 0, .slice none 0 0]) ?_ 0 _ rfl; (with_reducible repeat (first | refine blk_drewN ?_ _ | refine blk_drew ?_ | refine blk_alloc ?_ _)); exact BK277.out) hb); have n8_ := Aside0.mk (below_step (pB HB) hb); clear HO265; clear HO272; clear HO275; clear BK261; clear BK266; clear BK277; clear HB; have HO265 := n0_; have HO272 := n1_; have HO275 := n2_; have HO283 := n3_; have HO286 := n4_; have BK261 := n5_; have BK266 := n6_; have BK277 := n7_; have HB := n8_; clear n0_ n1_ n2_ n3_ n4_ n5_ n6_ n7_ n8_; (try clear hb); (try clear hb2); (try clear hk); (try clear hi); (try clear ho0); (try clear ho1)) | ((with_reducible refine gate_dst (N := 14) rfl ?_); refine box_event ?hg (N := 14) ?hd (cs := #[.int .i64 0, .int .i64 0, .int .i64 0, .slice none 0 0, .slice none 0 0]) (t := 30) ?hr ?_; (case hd => rfl); (case hg => rfl); (case hr => first | (go_simp; done) | (go_simp; rfl)); intro gb288 hg w43 hbox hb; have n0_ := rB HO265 hb; have n1_ := rB HO272 hb; have n2_ := rB HO275 hb; have n3_ := rB HO283 hb; have n4_ := rB HO286 hb; have n5_ := bB BK261 hb; have n6_ := bB BK266 hb; have n7_ := bB BK277 hb; have n8_ := Aside0.mk (below_step (pB HB) hb); have n9_ := Aside0.mk (hbox); have n10_ := Aside0.mk ((by rw [hg]; exact (below_size (pB HB)) : w.heap.size ≤ gb288)); have n11_ := Aside0.mk ((by rw [hg]; exact (below_size (pB HB)) : w.heap.size ≤ gb288)); have n12_ := Aside0.mk ((by rw [hg]; exact Nat.ne_of_lt (blk_lt (g := gb261) (o := .cells #[.int .i64 a1_0, .int .i64 a1_1, .slice A1_2 l1_2.length c1_2] 27 (0, 0)) (by (with_reducible repeat (first | refine blk_drewN ?_ _ | refine blk_drew ?_ | refine blk_alloc ?_ _)); exact BK261.out)) : gb261 ≠ gb288)); have n13_ := Aside0.mk ((by rw [hg]; exact Nat.ne_of_gt (blk_lt (g := gb261) (o := .cells #[.int .i64 a1_0, .int .i64 a1_1, .slice A1_2 l1_2.length c1_2] 27 (0, 0)) (by (with_reducible repeat (first | refine blk_drewN ?_ _ | refine blk_drew ?_ | refine blk_alloc ?_ _)); exact BK261.out)) : gb288 ≠ gb261)); have n14_ := Aside0.mk ((by rw [hg]; exact Nat.ne_of_lt (blk_lt (g := gb266) (o := .cells #[.int .i64 (wrap64 (a2)), .int .i64 (wrap64 (a3)), .slice Ao29 y263.length co29] 27 (0, 0)) (by (with_reducible repeat (first | refine blk_drewN ?_ _ | refine blk_drew ?_ | refine blk_alloc ?_ _)); exact BK266.out)) : gb266 ≠ gb288)); have n15_ := Aside0.mk ((by rw [hg]; exact Nat.ne_of_gt (blk_lt (g := gb266) (o := .cells #[.int .i64 (wrap64 (a2)), .int .i64 (wrap64 (a3)), .slice Ao29 y263.length co29] 27 (0, 0)) (by (with_reducible repeat (first | refine blk_drewN ?_ _ | refine blk_drew ?_ | refine blk_alloc ?_ _)); exact BK266.out)) : gb288 ≠ gb266)); have n16_ := Aside0.mk ((by rw [hg]; exact Nat.ne_of_lt (blk_lt (g := gb277) (o := .cells #[.int .i64 t267, .int .i64 t268, .int .i64 t269, .slice Ao39 t270.length co39, .slice Ao40 t273.length co40] 30 (0, 0)) (by (with_reducible repeat (first | refine blk_drewN ?_ _ | refine blk_drew ?_ | refine blk_alloc ?_ _)); exact BK277.out)) : gb277 ≠ gb288)); have n17_ := Aside0.mk ((by rw [hg]; exact Nat.ne_of_gt (blk_lt (g := gb277) (o := .cells #[.int .i64 t267, .int .i64 t268, .int .i64 t269, .slice Ao39 t270.length co39, .slice Ao40 t273.length co40] 30 (0, 0)) (by (with_reducible repeat (first | refine blk_drewN ?_ _ | refine blk_drew ?_ | refine blk_alloc ?_ _)); exact BK277.out)) : gb288 ≠ gb277)); clear HO265; clear HO272; clear HO275; clear HO283; clear HO286; clear BK261; clear BK266; clear BK277; clear HB; have HO265 := n0_; have HO272 := n1_; have HO275 := n2_; have HO283 := n3_; have HO286 := n4_; have BK261 := n5_; have BK266 := n6_; have BK277 := n7_; have HB := n8_; have BK288 := n9_; have GW288 := n10_; have GE288 := n11_; have NB261_288 := n12_; have NB288_261 := n13_; have NB266_288 := n14_; have NB288_266 := n15_; have NB277_288 := n16_; have NB288_277 := n17_; clear n0_ n1_ n2_ n3_ n4_ n5_ n6_ n7_ n8_ n9_ n10_ n11_ n12_ n13_ n14_ n15_ n16_ n17_; clear hb hbox hg; have hnb44 := NB288_261.out; have hnc44 := NB261_288.out; have hnb45 := NB288_266.out; have hnc45 := NB266_288.out; have hnb46 := NB288_277.out; have hnc46 := NB277_288.out; obtain ⟨hcz47_0, hcz47_1, hcz47_2, hcz47_3, hcz47_4⟩ := cells5 BK288; obtain ⟨hfz47_0, hfz47_1, hfz47_2, hfz47_3, hfz47_4⟩ := frz5 BK288; obtain ⟨Ao48, co48, eo48⟩ := Kd.R_slice HO283.out; subst eo48; obtain ⟨Ao49, co49, eo49⟩ := Kd.R_slice HO286.out; subst eo49; obtain ⟨hcz50_0, hcz50_1, hcz50_2⟩ := cells3 BK266; obtain ⟨hfz50_0, hfz50_1, hfz50_2⟩ := frz3 BK266) | ((with_reducible refine gate_callee (f := 17) rfl ?_); refine goesL_ (some 49) rfl rfl Try.func17 (by kernel_rfl) rfl #[.int .i64 5, .agg #[.int .i64 (wrap64 (a2)), .int .i64 (wrap64 (a3)), .slice Ao29 y263.length co29]] rfl (by (try simp only [List.map_toArray, List.map_cons, List.map_nil]); first | done | rfl | (simp only [List.length_drop, List.length_take]; rfl)) ?_; (with_reducible refine (docket_New.calls k 5 (wrap64 (a2)) (wrap64 (a3)) _ _ y263 t289 t290 t291 t292 t295 t298 _ ?side1 ?side2 A16.out).mono ?_); (case side1 => refine (Kd.R_reads' (e := 3) (base := w.heap.size) (ok := fun k_ => ((True ∧ some k_ ≠ (.slice Ao39 t270.length co39 : Value).ownBlock) ∧ some k_ ≠ (.slice Ao48 t281.length co48 : Value).ownBlock)) (n := y263.length) (c := co29) ?_).2.2; exact (by (with_reducible repeat (first | apply Kd.R_alloc | apply Kd.R_drewN | apply Kd.R_drew)); exact (Kd.R_mono (Kd.R_far (p := ⟨gb288, 4, none⟩) (Kd.R_far (p := ⟨gb288, 3, none⟩) (Kd.R_far (p := ⟨gb288, 2, none⟩) (Kd.R_far (p := ⟨gb288, 1, none⟩) (Kd.R_far (p := ⟨gb288, 0, none⟩) (Kd.R_types HO265.out BK288.out (by decide)) (fun _ hk => hk.2) (.int .i64 t278)) (fun _ hk => hk.2) (.int .i64 t279)) (fun _ hk => hk.2) (.int .i64 t280)) (fun _ hk => hk.2) (.slice Ao48 t281.length co48)) (fun _ hk => hk.2) (.slice Ao49 t284.length co49)) (fun _ h_ => h_.1)))); (case side2 => exact (Kd.R_reads' HO265.out).2.1); rintro e w51 ⟨v293, v296, rfl, ho0, ho1, hb⟩; refine ⟨_, rfl, ?_⟩; have n0_ := Aside0.mk (Kd.R_elder' (by (with_reducible repeat (first | apply Kd.R_alloc | apply Kd.R_drewN | apply Kd.R_drew)); exact (Kd.R_mono (Kd.R_far (p := ⟨gb288, 4, none⟩) (Kd.R_far (p := ⟨gb288, 3, none⟩) (Kd.R_far (p := ⟨gb288, 2, none⟩) (Kd.R_far (p := ⟨gb288, 1, none⟩) (Kd.R_far (p := ⟨gb288, 0, none⟩) (Kd.R_types HO265.out BK288.out (by decide)) (fun _ hk => hk.2) (.int .i64 t278)) (fun _ hk => hk.2) (.int .i64 t279)) (fun _ hk => hk.2) (.int .i64 t280)) (fun _ hk => hk.2) (.slice Ao48 t281.length co48)) (fun _ hk => hk.2) (.slice Ao49 t284.length co49)) (fun _ h_ => h_.1))) (Kd.R_base ho0) hb); have n1_ := Aside0.mk (Kd.R_elder' (by (with_reducible repeat (first | apply Kd.R_alloc | apply Kd.R_drewN | apply Kd.R_drew)); exact (Kd.R_mono (Kd.R_far (p := ⟨gb288, 4, none⟩) (Kd.R_far (p := ⟨gb288, 3, none⟩) (Kd.R_far (p := ⟨gb288, 2, none⟩) (Kd.R_far (p := ⟨gb288, 1, none⟩) (Kd.R_far (p := ⟨gb288, 0, none⟩) (Kd.R_types HO272.out BK288.out (by decide)) (fun _ hk => hk.2) (.int .i64 t278)) (fun _ hk => hk.2) (.int .i64 t279)) (fun _ hk => hk.2) (.int .i64 t280)) (fun _ hk => hk.2) (.slice Ao48 t281.length co48)) (fun _ hk => hk.2) (.slice Ao49 t284.length co49)) (fun _ h_ => h_.1))) (Kd.R_base ho0) hb); have n2_ := Aside0.mk (Kd.R_elder' (by (with_reducible repeat (first | apply Kd.R_alloc | apply Kd.R_drewN | apply Kd.R_drew)); exact (Kd.R_mono (Kd.R_far (p := ⟨gb288, 4, none⟩) (Kd.R_far (p := ⟨gb288, 3, none⟩) (Kd.R_far (p := ⟨gb288, 2, none⟩) (Kd.R_far (p := ⟨gb288, 1, none⟩) (Kd.R_far (p := ⟨gb288, 0, none⟩) (Kd.R_types HO275.out BK288.out (by decide)) (fun _ hk => hk.2) (.int .i64 t278)) (fun _ hk => hk.2) (.int .i64 t279)) (fun _ hk => hk.2) (.int .i64 t280)) (fun _ hk => hk.2) (.slice Ao48 t281.length co48)) (fun _ hk => hk.2) (.slice Ao49 t284.length co49)) (fun _ h_ => h_.1))) (Kd.R_base ho1) hb); have n3_ := Aside0.mk (Kd.R_elder' (by (with_reducible repeat (first | apply Kd.R_alloc | apply Kd.R_drewN | apply Kd.R_drew)); exact (Kd.R_mono (Kd.R_far (p := ⟨gb288, 4, none⟩) (Kd.R_far (p := ⟨gb288, 3, none⟩) (Kd.R_far (p := ⟨gb288, 2, none⟩) (Kd.R_far (p := ⟨gb288, 1, none⟩) (Kd.R_far (p := ⟨gb288, 0, none⟩) (Kd.R_types HO283.out BK288.out (by decide)) (fun _ hk => hk.2) (.int .i64 t278)) (fun _ hk => hk.2) (.int .i64 t279)) (fun _ hk => hk.2) (.int .i64 t280)) (fun _ hk => hk.2) (.slice Ao48 t281.length co48)) (fun _ hk => hk.2) (.slice Ao49 t284.length co49)) (fun _ h_ => h_.1))) (Kd.R_base ho0) hb); have n4_ := Aside0.mk (Kd.R_elder' (by (with_reducible repeat (first | apply Kd.R_alloc | apply Kd.R_drewN | apply Kd.R_drew)); exact (Kd.R_mono (Kd.R_far (p := ⟨gb288, 4, none⟩) (Kd.R_far (p := ⟨gb288, 3, none⟩) (Kd.R_far (p := ⟨gb288, 2, none⟩) (Kd.R_far (p := ⟨gb288, 1, none⟩) (Kd.R_far (p := ⟨gb288, 0, none⟩) (Kd.R_types HO286.out BK288.out (by decide)) (fun _ hk => hk.2) (.int .i64 t278)) (fun _ hk => hk.2) (.int .i64 t279)) (fun _ hk => hk.2) (.int .i64 t280)) (fun _ hk => hk.2) (.slice Ao48 t281.length co48)) (fun _ hk => hk.2) (.slice Ao49 t284.length co49)) (fun _ h_ => h_.1))) (Kd.R_base ho1) hb); have n5_ := Aside0.mk (Kd.R_lower (Kd.R_new' (Kd.R_new' (Kd.R_new' ho0 (Kd.R_lt (by (with_reducible repeat (first | apply Kd.R_alloc | apply Kd.R_drewN | apply Kd.R_drew)); exact (Kd.R_mono (Kd.R_far (p := ⟨gb288, 4, none⟩) (Kd.R_far (p := ⟨gb288, 3, none⟩) (Kd.R_far (p := ⟨gb288, 2, none⟩) (Kd.R_far (p := ⟨gb288, 1, none⟩) (Kd.R_far (p := ⟨gb288, 0, none⟩) (Kd.R_types HO265.out BK288.out (by decide)) (fun _ hk => hk.2) (.int .i64 t278)) (fun _ hk => hk.2) (.int .i64 t279)) (fun _ hk => hk.2) (.int .i64 t280)) (fun _ hk => hk.2) (.slice Ao48 t281.length co48)) (fun _ hk => hk.2) (.slice Ao49 t284.length co49)) (fun _ h_ => h_.1))))) (Kd.R_lt (by (with_reducible repeat (first | apply Kd.R_alloc | apply Kd.R_drewN | apply Kd.R_drew)); exact (Kd.R_mono (Kd.R_far (p := ⟨gb288, 4, none⟩) (Kd.R_far (p := ⟨gb288, 3, none⟩) (Kd.R_far (p := ⟨gb288, 2, none⟩) (Kd.R_far (p := ⟨gb288, 1, none⟩) (Kd.R_far (p := ⟨gb288, 0, none⟩) (Kd.R_types HO272.out BK288.out (by decide)) (fun _ hk => hk.2) (.int .i64 t278)) (fun _ hk => hk.2) (.int .i64 t279)) (fun _ hk => hk.2) (.int .i64 t280)) (fun _ hk => hk.2) (.slice Ao48 t281.length co48)) (fun _ hk => hk.2) (.slice Ao49 t284.length co49)) (fun _ h_ => h_.1))))) (Kd.R_lt (by (with_reducible repeat (first | apply Kd.R_alloc | apply Kd.R_drewN | apply Kd.R_drew)); exact (Kd.R_mono (Kd.R_far (p := ⟨gb288, 4, none⟩) (Kd.R_far (p := ⟨gb288, 3, none⟩) (Kd.R_far (p := ⟨gb288, 2, none⟩) (Kd.R_far (p := ⟨gb288, 1, none⟩) (Kd.R_far (p := ⟨gb288, 0, none⟩) (Kd.R_types HO283.out BK288.out (by decide)) (fun _ hk => hk.2) (.int .i64 t278)) (fun _ hk => hk.2) (.int .i64 t279)) (fun _ hk => hk.2) (.int .i64 t280)) (fun _ hk => hk.2) (.slice Ao48 t281.length co48)) (fun _ hk => hk.2) (.slice Ao49 t284.length co49)) (fun _ h_ => h_.1))))) (below_size (pB HB))); have n6_ := Aside0.mk (Kd.R_lower (Kd.R_new' (Kd.R_new' ho1 (Kd.R_lt (by (with_reducible repeat (first | apply Kd.R_alloc | apply Kd.R_drewN | apply Kd.R_drew)); exact (Kd.R_mono (Kd.R_far (p := ⟨gb288, 4, none⟩) (Kd.R_far (p := ⟨gb288, 3, none⟩) (Kd.R_far (p := ⟨gb288, 2, none⟩) (Kd.R_far (p := ⟨gb288, 1, none⟩) (Kd.R_far (p := ⟨gb288, 0, none⟩) (Kd.R_types HO275.out BK288.out (by decide)) (fun _ hk => hk.2) (.int .i64 t278)) (fun _ hk => hk.2) (.int .i64 t279)) (fun _ hk => hk.2) (.int .i64 t280)) (fun _ hk => hk.2) (.slice Ao48 t281.length co48)) (fun _ hk => hk.2) (.slice Ao49 t284.length co49)) (fun _ h_ => h_.1))))) (Kd.R_lt (by (with_reducible repeat (first | apply Kd.R_alloc | apply Kd.R_drewN | apply Kd.R_drew)); exact (Kd.R_mono (Kd.R_far (p := ⟨gb288, 4, none⟩) (Kd.R_far (p := ⟨gb288, 3, none⟩) (Kd.R_far (p := ⟨gb288, 2, none⟩) (Kd.R_far (p := ⟨gb288, 1, none⟩) (Kd.R_far (p := ⟨gb288, 0, none⟩) (Kd.R_types HO286.out BK288.out (by decide)) (fun _ hk => hk.2) (.int .i64 t278)) (fun _ hk => hk.2) (.int .i64 t279)) (fun _ hk => hk.2) (.int .i64 t280)) (fun _ hk => hk.2) (.slice Ao48 t281.length co48)) (fun _ hk => hk.2) (.slice Ao49 t284.length co49)) (fun _ h_ => h_.1))))) (below_size (pB HB))); have n7_ := Aside0.mk (blk_below (g := gb261) (o := .cells #[.int .i64 a1_0, .int .i64 a1_1, .slice A1_2 l1_2.length c1_2] 27 (0, 0)) (by (with_reducible repeat (first | refine blk_drewN ?_ _ | refine blk_drew ?_ | refine blk_alloc ?_ _)); refine blk_far ?_ NB261_288.out _; (with_reducible repeat (first | refine blk_drewN ?_ _ | refine blk_drew ?_ | refine blk_alloc ?_ _)); refine blk_far ?_ NB261_288.out _; (with_reducible repeat (first | refine blk_drewN ?_ _ | refine blk_drew ?_ | refine blk_alloc ?_ _)); refine blk_far ?_ NB261_288.out _; (with_reducible repeat (first | refine blk_drewN ?_ _ | refine blk_drew ?_ | refine blk_alloc ?_ _)); refine blk_far ?_ NB261_288.out _; (with_reducible repeat (first | refine blk_drewN ?_ _ | refine blk_drew ?_ | refine blk_alloc ?_ _)); refine blk_far ?_ NB261_288.out _; (with_reducible repeat (first | refine blk_drewN ?_ _ | refine blk_drew ?_ | refine blk_alloc ?_ _)); exact BK261.out) hb); have n8_ := Aside0.mk (blk_below (g := gb266) (o := .cells #[.int .i64 (wrap64 (a2)), .int .i64 (wrap64 (a3)), .slice Ao29 y263.length co29] 27 (0, 0)) (by (with_reducible repeat (first | refine blk_drewN ?_ _ | refine blk_drew ?_ | refine blk_alloc ?_ _)); refine blk_far ?_ NB266_288.out _; (with_reducible repeat (first | refine blk_drewN ?_ _ | refine blk_drew ?_ | refine blk_alloc ?_ _)); refine blk_far ?_ NB266_288.out _; (with_reducible repeat (first | refine blk_drewN ?_ _ | refine blk_drew ?_ | refine blk_alloc ?_ _)); refine blk_far ?_ NB266_288.out _; (with_reducible repeat (first | refine blk_drewN ?_ _ | refine blk_drew ?_ | refine blk_alloc ?_ _)); refine blk_far ?_ NB266_288.out _; (with_reducible repeat (first | refine blk_drewN ?_ _ | refine blk_drew ?_ | refine blk_alloc ?_ _)); refine blk_far ?_ NB266_288.out _; (with_reducible repeat (first | refine blk_drewN ?_ _ | refine blk_drew ?_ | refine blk_alloc ?_ _)); exact BK266.out) hb); have n9_ := Aside0.mk (blk_below (g := gb277) (o := .cells #[.int .i64 t267, .int .i64 t268, .int .i64 t269, .slice Ao39 t270.length co39, .slice Ao40 t273.length co40] 30 (0, 0)) (by (with_reducible repeat (first | refine blk_drewN ?_ _ | refine blk_drew ?_ | refine blk_alloc ?_ _)); refine blk_far ?_ NB277_288.out _; (with_reducible repeat (first | refine blk_drewN ?_ _ | refine blk_drew ?_ | refine blk_alloc ?_ _)); refine blk_far ?_ NB277_288.out _; (with_reducible repeat (first | refine blk_drewN ?_ _ | refine blk_drew ?_ | refine blk_alloc ?_ _)); refine blk_far ?_ NB277_288.out _; (with_reducible repeat (first | refine blk_drewN ?_ _ | refine blk_drew ?_ | refine blk_alloc ?_ _)); refine blk_far ?_ NB277_288.out _; (with_reducible repeat (first | refine blk_drewN ?_ _ | refine blk_drew ?_ | refine blk_alloc ?_ _)); refine blk_far ?_ NB277_288.out _; (with_reducible repeat (first | refine blk_drewN ?_ _ | refine blk_drew ?_ | refine blk_alloc ?_ _)); exact BK277.out) hb); have n10_ := Aside0.mk (blk_below (g := gb288) (o := .cells #[.int .i64 t278, .int .i64 t279, .int .i64 t280, .slice Ao48 t281.length co48, .slice Ao49 t284.length co49] 30 (0, 0)) (by (with_reducible repeat (first | refine blk_drewN ?_ _ | refine blk_drew ?_ | refine blk_alloc ?_ _)); refine blk_put (cs := #[.int .i64 t278, .int .i64 t279, .int .i64 t280, .slice Ao48 t281.length co48, .slice none 0 0]) ?_ 4 _ rfl; (with_reducible repeat (first | refine blk_drewN ?_ _ | refine blk_drew ?_ | refine blk_alloc ?_ _)); refine blk_put (cs := #[.int .i64 t278, .int .i64 t279, .int .i64 t280, .slice none 0 0, .slice none 0 0]) ?_ 3 _ rfl; (with_reducible repeat (first | refine blk_drewN ?_ _ | refine blk_drew ?_ | refine blk_alloc ?_ _)); refine blk_put (cs := #[.int .i64 t278, .int .i64 t279, .int .i64 0, .slice none 0 0, .slice none 0 0]) ?_ 2 _ rfl; (with_reducible repeat (first | refine blk_drewN ?_ _ | refine blk_drew ?_ | refine blk_alloc ?_ _)); refine blk_put (cs := #[.int .i64 t278, .int .i64 0, .int .i64 0, .slice none 0 0, .slice none 0 0]) ?_ 1 _ rfl; (with_reducible repeat (first | refine blk_drewN ?_ _ | refine blk_drew ?_ | refine blk_alloc ?_ _)); refine blk_put (cs := #[.int .i64 0, .int .i64 0, .int .i64 0, .slice none 0 0, .slice none 0 0]) ?_ 0 _ rfl; (with_reducible repeat (first | refine blk_drewN ?_ _ | refine blk_drew ?_ | refine blk_alloc ?_ _)); exact BK288.out) hb); have n11_ := Aside0.mk (below_step (pB HB) hb); clear HO265; clear HO272; clear HO275; clear HO283; clear HO286; clear BK261; clear BK266; clear BK277; clear BK288; clear HB; have HO265 := n0_; have HO272 := n1_; have HO275 := n2_; have HO283 := n3_; have HO286 := n4_; have HO294 := n5_; have HO297 := n6_; have BK261 := n7_; have BK266 := n8_; have BK277 := n9_; have BK288 := n10_; have HB := n11_; clear n0_ n1_ n2_ n3_ n4_ n5_ n6_ n7_ n8_ n9_ n10_ n11_; (try clear hb); (try clear hb2); (try clear hk); (try clear hi); (try clear ho0); (try clear ho1)) | ((with_reducible refine gate_dst (N := 16) rfl ?_); refine box_event ?hg (N := 16) ?hd (cs := #[.int .i64 0, .int .i64 0, .int .i64 0, .slice none 0 0, .slice none 0 0]) (t := 30) ?hr ?_; (case hd => rfl); (case hg => rfl); (case hr => first | (go_simp; done) | (go_simp; rfl)); intro gb299 hg w52 hbox hb; have n0_ := rB HO265 hb; have n1_ := rB HO272 hb; have n2_ := rB HO275 hb; have n3_ := rB HO283 hb; have n4_ := rB HO286 hb; have n5_ := rB HO294 hb; have n6_ := rB HO297 hb; have n7_ := bB BK261 hb; have n8_ := bB BK266 hb; have n9_ := bB BK277 hb; have n10_ := bB BK288 hb; have n11_ := Aside0.mk (below_step (pB HB) hb); have n12_ := Aside0.mk (hbox); have n13_ := Aside0.mk ((by rw [hg]; exact (below_size (pB HB)) : w.heap.size ≤ gb299)); have n14_ := Aside0.mk ((by rw [hg]; exact (below_size (pB HB)) : w.heap.size ≤ gb299)); have n15_ := Aside0.mk ((by rw [hg]; exact Nat.ne_of_lt (blk_lt (g := gb261) (o := .cells #[.int .i64 a1_0, .int .i64 a1_1, .slice A1_2 l1_2.length c1_2] 27 (0, 0)) (by (with_reducible repeat (first | refine blk_drewN ?_ _ | refine blk_drew ?_ | refine blk_alloc ?_ _)); exact BK261.out)) : gb261 ≠ gb299)); have n16_ := Aside0.mk ((by rw [hg]; exact Nat.ne_of_gt (blk_lt (g := gb261) (o := .cells #[.int .i64 a1_0, .int .i64 a1_1, .slice A1_2 l1_2.length c1_2] 27 (0, 0)) (by (with_reducible repeat (first | refine blk_drewN ?_ _ | refine blk_drew ?_ | refine blk_alloc ?_ _)); exact BK261.out)) : gb299 ≠ gb261)); have n17_ := Aside0.mk ((by rw [hg]; exact Nat.ne_of_lt (blk_lt (g := gb266) (o := .cells #[.int .i64 (wrap64 (a2)), .int .i64 (wrap64 (a3)), .slice Ao29 y263.length co29] 27 (0, 0)) (by (with_reducible repeat (first | refine blk_drewN ?_ _ | refine blk_drew ?_ | refine blk_alloc ?_ _)); exact BK266.out)) : gb266 ≠ gb299)); have n18_ := Aside0.mk ((by rw [hg]; exact Nat.ne_of_gt (blk_lt (g := gb266) (o := .cells #[.int .i64 (wrap64 (a2)), .int .i64 (wrap64 (a3)), .slice Ao29 y263.length co29] 27 (0, 0)) (by (with_reducible repeat (first | refine blk_drewN ?_ _ | refine blk_drew ?_ | refine blk_alloc ?_ _)); exact BK266.out)) : gb299 ≠ gb266)); have n19_ := Aside0.mk ((by rw [hg]; exact Nat.ne_of_lt (blk_lt (g := gb277) (o := .cells #[.int .i64 t267, .int .i64 t268, .int .i64 t269, .slice Ao39 t270.length co39, .slice Ao40 t273.length co40] 30 (0, 0)) (by (with_reducible repeat (first | refine blk_drewN ?_ _ | refine blk_drew ?_ | refine blk_alloc ?_ _)); exact BK277.out)) : gb277 ≠ gb299)); have n20_ := Aside0.mk ((by rw [hg]; exact Nat.ne_of_gt (blk_lt (g := gb277) (o := .cells #[.int .i64 t267, .int .i64 t268, .int .i64 t269, .slice Ao39 t270.length co39, .slice Ao40 t273.length co40] 30 (0, 0)) (by (with_reducible repeat (first | refine blk_drewN ?_ _ | refine blk_drew ?_ | refine blk_alloc ?_ _)); exact BK277.out)) : gb299 ≠ gb277)); have n21_ := Aside0.mk ((by rw [hg]; exact Nat.ne_of_lt (blk_lt (g := gb288) (o := .cells #[.int .i64 t278, .int .i64 t279, .int .i64 t280, .slice Ao48 t281.length co48, .slice Ao49 t284.length co49] 30 (0, 0)) (by (with_reducible repeat (first | refine blk_drewN ?_ _ | refine blk_drew ?_ | refine blk_alloc ?_ _)); exact BK288.out)) : gb288 ≠ gb299)); have n22_ := Aside0.mk ((by rw [hg]; exact Nat.ne_of_gt (blk_lt (g := gb288) (o := .cells #[.int .i64 t278, .int .i64 t279, .int .i64 t280, .slice Ao48 t281.length co48, .slice Ao49 t284.length co49] 30 (0, 0)) (by (with_reducible repeat (first | refine blk_drewN ?_ _ | refine blk_drew ?_ | refine blk_alloc ?_ _)); exact BK288.out)) : gb299 ≠ gb288)); clear HO265; clear HO272; clear HO275; clear HO283; clear HO286; clear HO294; clear HO297; clear BK261; clear BK266; clear BK277; clear BK288; clear HB; have HO265 := n0_; have HO272 := n1_; have HO275 := n2_; have HO283 := n3_; have HO286 := n4_; have HO294 := n5_; have HO297 := n6_; have BK261 := n7_; have BK266 := n8_; have BK277 := n9_; have BK288 := n10_; have HB := n11_; have BK299 := n12_; have GW299 := n13_; have GE299 := n14_; have NB261_299 := n15_; have NB299_261 := n16_; have NB266_299 := n17_; have NB299_266 := n18_; have NB277_299 := n19_; have NB299_277 := n20_; have NB288_299 := n21_; have NB299_288 := n22_; clear n0_ n1_ n2_ n3_ n4_ n5_ n6_ n7_ n8_ n9_ n10_ n11_ n12_ n13_ n14_ n15_ n16_ n17_ n18_ n19_ n20_ n21_ n22_; clear hb hbox hg; have hnb53 := NB299_261.out; have hnc53 := NB261_299.out; have hnb54 := NB299_266.out; have hnc54 := NB266_299.out; have hnb55 := NB299_277.out; have hnc55 := NB277_299.out; have hnb56 := NB299_288.out; have hnc56 := NB288_299.out; obtain ⟨hcz57_0, hcz57_1, hcz57_2, hcz57_3, hcz57_4⟩ := cells5 BK299; obtain ⟨hfz57_0, hfz57_1, hfz57_2, hfz57_3, hfz57_4⟩ := frz5 BK299; obtain ⟨Ao58, co58, eo58⟩ := Kd.R_slice HO294.out; subst eo58; obtain ⟨Ao59, co59, eo59⟩ := Kd.R_slice HO297.out; subst eo59; obtain ⟨hcz60_0, hcz60_1, hcz60_2⟩ := cells3 BK266; obtain ⟨hfz60_0, hfz60_1, hfz60_2⟩ := frz3 BK266) | ((with_reducible refine gate_callee (f := 22) rfl ?_); refine goesL_ (some 54) rfl rfl Try.func22 (by kernel_rfl) rfl #[.int .i64 5, .agg #[.int .i64 (wrap64 (a2)), .int .i64 (wrap64 (a3)), .slice Ao29 y263.length co29]] rfl (by (try simp only [List.map_toArray, List.map_cons, List.map_nil]); first | done | rfl | (simp only [List.length_drop, List.length_take]; rfl)) ?_; (with_reducible refine (insolvencyref33_NewDocket.calls 5 (wrap64 (a2)) (wrap64 (a3)) _ _ y263 t300 t301 t302 t303 t306 t309 _ ?side1 ?side2 A17.out).mono ?_); (case side1 => refine (Kd.R_reads' (e := 3) (base := w.heap.size) (ok := fun k_ => (((True ∧ some k_ ≠ (.slice Ao39 t270.length co39 : Value).ownBlock) ∧ some k_ ≠ (.slice Ao48 t281.length co48 : Value).ownBlock) ∧ some k_ ≠ (.slice Ao58 t292.length co58 : Value).ownBlock)) (n := y263.length) (c := co29) ?_).2.2; exact (by (with_reducible repeat (first | apply Kd.R_alloc | apply Kd.R_drewN | apply Kd.R_drew)); exact (Kd.R_mono (Kd.R_far (p := ⟨gb299, 4, none⟩) (Kd.R_far (p := ⟨gb299, 3, none⟩) (Kd.R_far (p := ⟨gb299, 2, none⟩) (Kd.R_far (p := ⟨gb299, 1, none⟩) (Kd.R_far (p := ⟨gb299, 0, none⟩) (Kd.R_types HO265.out BK299.out (by decide)) (fun _ hk => hk.2) (.int .i64 t289)) (fun _ hk => hk.2) (.int .i64 t290)) (fun _ hk => hk.2) (.int .i64 t291)) (fun _ hk => hk.2) (.slice Ao58 t292.length co58)) (fun _ hk => hk.2) (.slice Ao59 t295.length co59)) (fun _ h_ => h_.1)))); (case side2 => exact (Kd.R_reads' HO265.out).2.1); rintro e w61 ⟨v304, v307, rfl, ho0, ho1, hb⟩; refine ⟨_, rfl, ?_⟩; have n0_ := Aside0.mk (Kd.R_elder' (by (with_reducible repeat (first | apply Kd.R_alloc | apply Kd.R_drewN | apply Kd.R_drew)); exact (Kd.R_mono (Kd.R_far (p := ⟨gb299, 4, none⟩) (Kd.R_far (p := ⟨gb299, 3, none⟩) (Kd.R_far (p := ⟨gb299, 2, none⟩) (Kd.R_far (p := ⟨gb299, 1, none⟩) (Kd.R_far (p := ⟨gb299, 0, none⟩) (Kd.R_types HO265.out BK299.out (by decide)) (fun _ hk => hk.2) (.int .i64 t289)) (fun _ hk => hk.2) (.int .i64 t290)) (fun _ hk => hk.2) (.int .i64 t291)) (fun _ hk => hk.2) (.slice Ao58 t292.length co58)) (fun _ hk => hk.2) (.slice Ao59 t295.length co59)) (fun _ h_ => h_.1))) (Kd.R_base ho0) hb); have n1_ := Aside0.mk (Kd.R_elder' (by (with_reducible repeat (first | apply Kd.R_alloc | apply Kd.R_drewN | apply Kd.R_drew)); exact (Kd.R_mono (Kd.R_far (p := ⟨gb299, 4, none⟩) (Kd.R_far (p := ⟨gb299, 3, none⟩) (Kd.R_far (p := ⟨gb299, 2, none⟩) (Kd.R_far (p := ⟨gb299, 1, none⟩) (Kd.R_far (p := ⟨gb299, 0, none⟩) (Kd.R_types HO272.out BK299.out (by decide)) (fun _ hk => hk.2) (.int .i64 t289)) (fun _ hk => hk.2) (.int .i64 t290)) (fun _ hk => hk.2) (.int .i64 t291)) (fun _ hk => hk.2) (.slice Ao58 t292.length co58)) (fun _ hk => hk.2) (.slice Ao59 t295.length co59)) (fun _ h_ => h_.1))) (Kd.R_base ho0) hb); have n2_ := Aside0.mk (Kd.R_elder' (by (with_reducible repeat (first | apply Kd.R_alloc | apply Kd.R_drewN | apply Kd.R_drew)); exact (Kd.R_mono (Kd.R_far (p := ⟨gb299, 4, none⟩) (Kd.R_far (p := ⟨gb299, 3, none⟩) (Kd.R_far (p := ⟨gb299, 2, none⟩) (Kd.R_far (p := ⟨gb299, 1, none⟩) (Kd.R_far (p := ⟨gb299, 0, none⟩) (Kd.R_types HO275.out BK299.out (by decide)) (fun _ hk => hk.2) (.int .i64 t289)) (fun _ hk => hk.2) (.int .i64 t290)) (fun _ hk => hk.2) (.int .i64 t291)) (fun _ hk => hk.2) (.slice Ao58 t292.length co58)) (fun _ hk => hk.2) (.slice Ao59 t295.length co59)) (fun _ h_ => h_.1))) (Kd.R_base ho1) hb); have n3_ := Aside0.mk (Kd.R_elder' (by (with_reducible repeat (first | apply Kd.R_alloc | apply Kd.R_drewN | apply Kd.R_drew)); exact (Kd.R_mono (Kd.R_far (p := ⟨gb299, 4, none⟩) (Kd.R_far (p := ⟨gb299, 3, none⟩) (Kd.R_far (p := ⟨gb299, 2, none⟩) (Kd.R_far (p := ⟨gb299, 1, none⟩) (Kd.R_far (p := ⟨gb299, 0, none⟩) (Kd.R_types HO283.out BK299.out (by decide)) (fun _ hk => hk.2) (.int .i64 t289)) (fun _ hk => hk.2) (.int .i64 t290)) (fun _ hk => hk.2) (.int .i64 t291)) (fun _ hk => hk.2) (.slice Ao58 t292.length co58)) (fun _ hk => hk.2) (.slice Ao59 t295.length co59)) (fun _ h_ => h_.1))) (Kd.R_base ho0) hb); have n4_ := Aside0.mk (Kd.R_elder' (by (with_reducible repeat (first | apply Kd.R_alloc | apply Kd.R_drewN | apply Kd.R_drew)); exact (Kd.R_mono (Kd.R_far (p := ⟨gb299, 4, none⟩) (Kd.R_far (p := ⟨gb299, 3, none⟩) (Kd.R_far (p := ⟨gb299, 2, none⟩) (Kd.R_far (p := ⟨gb299, 1, none⟩) (Kd.R_far (p := ⟨gb299, 0, none⟩) (Kd.R_types HO286.out BK299.out (by decide)) (fun _ hk => hk.2) (.int .i64 t289)) (fun _ hk => hk.2) (.int .i64 t290)) (fun _ hk => hk.2) (.int .i64 t291)) (fun _ hk => hk.2) (.slice Ao58 t292.length co58)) (fun _ hk => hk.2) (.slice Ao59 t295.length co59)) (fun _ h_ => h_.1))) (Kd.R_base ho1) hb); have n5_ := Aside0.mk (Kd.R_elder' (by (with_reducible repeat (first | apply Kd.R_alloc | apply Kd.R_drewN | apply Kd.R_drew)); exact (Kd.R_mono (Kd.R_far (p := ⟨gb299, 4, none⟩) (Kd.R_far (p := ⟨gb299, 3, none⟩) (Kd.R_far (p := ⟨gb299, 2, none⟩) (Kd.R_far (p := ⟨gb299, 1, none⟩) (Kd.R_far (p := ⟨gb299, 0, none⟩) (Kd.R_types HO294.out BK299.out (by decide)) (fun _ hk => hk.2) (.int .i64 t289)) (fun _ hk => hk.2) (.int .i64 t290)) (fun _ hk => hk.2) (.int .i64 t291)) (fun _ hk => hk.2) (.slice Ao58 t292.length co58)) (fun _ hk => hk.2) (.slice Ao59 t295.length co59)) (fun _ h_ => h_.1))) (Kd.R_base ho0) hb); have n6_ := Aside0.mk (Kd.R_elder' (by (with_reducible repeat (first | apply Kd.R_alloc | apply Kd.R_drewN | apply Kd.R_drew)); exact (Kd.R_mono (Kd.R_far (p := ⟨gb299, 4, none⟩) (Kd.R_far (p := ⟨gb299, 3, none⟩) (Kd.R_far (p := ⟨gb299, 2, none⟩) (Kd.R_far (p := ⟨gb299, 1, none⟩) (Kd.R_far (p := ⟨gb299, 0, none⟩) (Kd.R_types HO297.out BK299.out (by decide)) (fun _ hk => hk.2) (.int .i64 t289)) (fun _ hk => hk.2) (.int .i64 t290)) (fun _ hk => hk.2) (.int .i64 t291)) (fun _ hk => hk.2) (.slice Ao58 t292.length co58)) (fun _ hk => hk.2) (.slice Ao59 t295.length co59)) (fun _ h_ => h_.1))) (Kd.R_base ho1) hb); have n7_ := Aside0.mk (Kd.R_lower (Kd.R_new' (Kd.R_new' (Kd.R_new' (Kd.R_new' ho0 (Kd.R_lt (by (with_reducible repeat (first | apply Kd.R_alloc | apply Kd.R_drewN | apply Kd.R_drew)); exact (Kd.R_mono (Kd.R_far (p := ⟨gb299, 4, none⟩) (Kd.R_far (p := ⟨gb299, 3, none⟩) (Kd.R_far (p := ⟨gb299, 2, none⟩) (Kd.R_far (p := ⟨gb299, 1, none⟩) (Kd.R_far (p := ⟨gb299, 0, none⟩) (Kd.R_types HO265.out BK299.out (by decide)) (fun _ hk => hk.2) (.int .i64 t289)) (fun _ hk => hk.2) (.int .i64 t290)) (fun _ hk => hk.2) (.int .i64 t291)) (fun _ hk => hk.2) (.slice Ao58 t292.length co58)) (fun _ hk => hk.2) (.slice Ao59 t295.length co59)) (fun _ h_ => h_.1))))) (Kd.R_lt (by (with_reducible repeat (first | apply Kd.R_alloc | apply Kd.R_drewN | apply Kd.R_drew)); exact (Kd.R_mono (Kd.R_far (p := ⟨gb299, 4, none⟩) (Kd.R_far (p := ⟨gb299, 3, none⟩) (Kd.R_far (p := ⟨gb299, 2, none⟩) (Kd.R_far (p := ⟨gb299, 1, none⟩) (Kd.R_far (p := ⟨gb299, 0, none⟩) (Kd.R_types HO272.out BK299.out (by decide)) (fun _ hk => hk.2) (.int .i64 t289)) (fun _ hk => hk.2) (.int .i64 t290)) (fun _ hk => hk.2) (.int .i64 t291)) (fun _ hk => hk.2) (.slice Ao58 t292.length co58)) (fun _ hk => hk.2) (.slice Ao59 t295.length co59)) (fun _ h_ => h_.1))))) (Kd.R_lt (by (with_reducible repeat (first | apply Kd.R_alloc | apply Kd.R_drewN | apply Kd.R_drew)); exact (Kd.R_mono (Kd.R_far (p := ⟨gb299, 4, none⟩) (Kd.R_far (p := ⟨gb299, 3, none⟩) (Kd.R_far (p := ⟨gb299, 2, none⟩) (Kd.R_far (p := ⟨gb299, 1, none⟩) (Kd.R_far (p := ⟨gb299, 0, none⟩) (Kd.R_types HO283.out BK299.out (by decide)) (fun _ hk => hk.2) (.int .i64 t289)) (fun _ hk => hk.2) (.int .i64 t290)) (fun _ hk => hk.2) (.int .i64 t291)) (fun _ hk => hk.2) (.slice Ao58 t292.length co58)) (fun _ hk => hk.2) (.slice Ao59 t295.length co59)) (fun _ h_ => h_.1))))) (Kd.R_lt (by (with_reducible repeat (first | apply Kd.R_alloc | apply Kd.R_drewN | apply Kd.R_drew)); exact (Kd.R_mono (Kd.R_far (p := ⟨gb299, 4, none⟩) (Kd.R_far (p := ⟨gb299, 3, none⟩) (Kd.R_far (p := ⟨gb299, 2, none⟩) (Kd.R_far (p := ⟨gb299, 1, none⟩) (Kd.R_far (p := ⟨gb299, 0, none⟩) (Kd.R_types HO294.out BK299.out (by decide)) (fun _ hk => hk.2) (.int .i64 t289)) (fun _ hk => hk.2) (.int .i64 t290)) (fun _ hk => hk.2) (.int .i64 t291)) (fun _ hk => hk.2) (.slice Ao58 t292.length co58)) (fun _ hk => hk.2) (.slice Ao59 t295.length co59)) (fun _ h_ => h_.1))))) (below_size (pB HB))); have n8_ := Aside0.mk (Kd.R_lower (Kd.R_new' (Kd.R_new' (Kd.R_new' ho1 (Kd.R_lt (by (with_reducible repeat (first | apply Kd.R_alloc | apply Kd.R_drewN | apply Kd.R_drew)); exact (Kd.R_mono (Kd.R_far (p := ⟨gb299, 4, none⟩) (Kd.R_far (p := ⟨gb299, 3, none⟩) (Kd.R_far (p := ⟨gb299, 2, none⟩) (Kd.R_far (p := ⟨gb299, 1, none⟩) (Kd.R_far (p := ⟨gb299, 0, none⟩) (Kd.R_types HO275.out BK299.out (by decide)) (fun _ hk => hk.2) (.int .i64 t289)) (fun _ hk => hk.2) (.int .i64 t290)) (fun _ hk => hk.2) (.int .i64 t291)) (fun _ hk => hk.2) (.slice Ao58 t292.length co58)) (fun _ hk => hk.2) (.slice Ao59 t295.length co59)) (fun _ h_ => h_.1))))) (Kd.R_lt (by (with_reducible repeat (first | apply Kd.R_alloc | apply Kd.R_drewN | apply Kd.R_drew)); exact (Kd.R_mono (Kd.R_far (p := ⟨gb299, 4, none⟩) (Kd.R_far (p := ⟨gb299, 3, none⟩) (Kd.R_far (p := ⟨gb299, 2, none⟩) (Kd.R_far (p := ⟨gb299, 1, none⟩) (Kd.R_far (p := ⟨gb299, 0, none⟩) (Kd.R_types HO286.out BK299.out (by decide)) (fun _ hk => hk.2) (.int .i64 t289)) (fun _ hk => hk.2) (.int .i64 t290)) (fun _ hk => hk.2) (.int .i64 t291)) (fun _ hk => hk.2) (.slice Ao58 t292.length co58)) (fun _ hk => hk.2) (.slice Ao59 t295.length co59)) (fun _ h_ => h_.1))))) (Kd.R_lt (by (with_reducible repeat (first | apply Kd.R_alloc | apply Kd.R_drewN | apply Kd.R_drew)); exact (Kd.R_mono (Kd.R_far (p := ⟨gb299, 4, none⟩) (Kd.R_far (p := ⟨gb299, 3, none⟩) (Kd.R_far (p := ⟨gb299, 2, none⟩) (Kd.R_far (p := ⟨gb299, 1, none⟩) (Kd.R_far (p := ⟨gb299, 0, none⟩) (Kd.R_types HO297.out BK299.out (by decide)) (fun _ hk => hk.2) (.int .i64 t289)) (fun _ hk => hk.2) (.int .i64 t290)) (fun _ hk => hk.2) (.int .i64 t291)) (fun _ hk => hk.2) (.slice Ao58 t292.length co58)) (fun _ hk => hk.2) (.slice Ao59 t295.length co59)) (fun _ h_ => h_.1))))) (below_size (pB HB))); have n9_ := Aside0.mk (blk_below (g := gb261) (o := .cells #[.int .i64 a1_0, .int .i64 a1_1, .slice A1_2 l1_2.length c1_2] 27 (0, 0)) (by (with_reducible repeat (first | refine blk_drewN ?_ _ | refine blk_drew ?_ | refine blk_alloc ?_ _)); refine blk_far ?_ NB261_299.out _; (with_reducible repeat (first | refine blk_drewN ?_ _ | refine blk_drew ?_ | refine blk_alloc ?_ _)); refine blk_far ?_ NB261_299.out _; (with_reducible repeat (first | refine blk_drewN ?_ _ | refine blk_drew ?_ | refine blk_alloc ?_ _)); refine blk_far ?_ NB261_299.out _; (with_reducible repeat (first | refine blk_drewN ?_ _ | refine blk_drew ?_ | refine blk_alloc ?_ _)); refine blk_far ?_ NB261_299.out _; (with_reducible repeat (first | refine blk_drewN ?_ _ | refine blk_drew ?_ | refine blk_alloc ?_ _)); refine blk_far ?_ NB261_299.out _; (with_reducible repeat (first | refine blk_drewN ?_ _ | refine blk_drew ?_ | refine blk_alloc ?_ _)); exact BK261.out) hb); have n10_ := Aside0.mk (blk_below (g := gb266) (o := .cells #[.int .i64 (wrap64 (a2)), .int .i64 (wrap64 (a3)), .slice Ao29 y263.length co29] 27 (0, 0)) (by (with_reducible repeat (first | refine blk_drewN ?_ _ | refine blk_drew ?_ | refine blk_alloc ?_ _)); refine blk_far ?_ NB266_299.out _; (with_reducible repeat (first | refine blk_drewN ?_ _ | refine blk_drew ?_ | refine blk_alloc ?_ _)); refine blk_far ?_ NB266_299.out _; (with_reducible repeat (first | refine blk_drewN ?_ _ | refine blk_drew ?_ | refine blk_alloc ?_ _)); refine blk_far ?_ NB266_299.out _; (with_reducible repeat (first | refine blk_drewN ?_ _ | refine blk_drew ?_ | refine blk_alloc ?_ _)); refine blk_far ?_ NB266_299.out _; (with_reducible repeat (first | refine blk_drewN ?_ _ | refine blk_drew ?_ | refine blk_alloc ?_ _)); refine blk_far ?_ NB266_299.out _; (with_reducible repeat (first | refine blk_drewN ?_ _ | refine blk_drew ?_ | refine blk_alloc ?_ _)); exact BK266.out) hb); have n11_ := Aside0.mk (blk_below (g := gb277) (o := .cells #[.int .i64 t267, .int .i64 t268, .int .i64 t269, .slice Ao39 t270.length co39, .slice Ao40 t273.length co40] 30 (0, 0)) (by (with_reducible repeat (first | refine blk_drewN ?_ _ | refine blk_drew ?_ | refine blk_alloc ?_ _)); refine blk_far ?_ NB277_299.out _; (with_reducible repeat (first | refine blk_drewN ?_ _ | refine blk_drew ?_ | refine blk_alloc ?_ _)); refine blk_far ?_ NB277_299.out _; (with_reducible repeat (first | refine blk_drewN ?_ _ | refine blk_drew ?_ | refine blk_alloc ?_ _)); refine blk_far ?_ NB277_299.out _; (with_reducible repeat (first | refine blk_drewN ?_ _ | refine blk_drew ?_ | refine blk_alloc ?_ _)); refine blk_far ?_ NB277_299.out _; (with_reducible repeat (first | refine blk_drewN ?_ _ | refine blk_drew ?_ | refine blk_alloc ?_ _)); refine blk_far ?_ NB277_299.out _; (with_reducible repeat (first | refine blk_drewN ?_ _ | refine blk_drew ?_ | refine blk_alloc ?_ _)); exact BK277.out) hb); have n12_ := Aside0.mk (blk_below (g := gb288) (o := .cells #[.int .i64 t278, .int .i64 t279, .int .i64 t280, .slice Ao48 t281.length co48, .slice Ao49 t284.length co49] 30 (0, 0)) (by (with_reducible repeat (first | refine blk_drewN ?_ _ | refine blk_drew ?_ | refine blk_alloc ?_ _)); refine blk_far ?_ NB288_299.out _; (with_reducible repeat (first | refine blk_drewN ?_ _ | refine blk_drew ?_ | refine blk_alloc ?_ _)); refine blk_far ?_ NB288_299.out _; (with_reducible repeat (first | refine blk_drewN ?_ _ | refine blk_drew ?_ | refine blk_alloc ?_ _)); refine blk_far ?_ NB288_299.out _; (with_reducible repeat (first | refine blk_drewN ?_ _ | refine blk_drew ?_ | refine blk_alloc ?_ _)); refine blk_far ?_ NB288_299.out _; (with_reducible repeat (first | refine blk_drewN ?_ _ | refine blk_drew ?_ | refine blk_alloc ?_ _)); refine blk_far ?_ NB288_299.out _; (with_reducible repeat (first | refine blk_drewN ?_ _ | refine blk_drew ?_ | refine blk_alloc ?_ _)); exact BK288.out) hb); have n13_ := Aside0.mk (blk_below (g := gb299) (o := .cells #[.int .i64 t289, .int .i64 t290, .int .i64 t291, .slice Ao58 t292.length co58, .slice Ao59 t295.length co59] 30 (0, 0)) (by (with_reducible repeat (first | refine blk_drewN ?_ _ | refine blk_drew ?_ | refine blk_alloc ?_ _)); refine blk_put (cs := #[.int .i64 t289, .int .i64 t290, .int .i64 t291, .slice Ao58 t292.length co58, .slice none 0 0]) ?_ 4 _ rfl; (with_reducible repeat (first | refine blk_drewN ?_ _ | refine blk_drew ?_ | refine blk_alloc ?_ _)); refine blk_put (cs := #[.int .i64 t289, .int .i64 t290, .int .i64 t291, .slice none 0 0, .slice none 0 0]) ?_ 3 _ rfl; (with_reducible repeat (first | refine blk_drewN ?_ _ | refine blk_drew ?_ | refine blk_alloc ?_ _)); refine blk_put (cs := #[.int .i64 t289, .int .i64 t290, .int .i64 0, .slice none 0 0, .slice none 0 0]) ?_ 2 _ rfl; (with_reducible repeat (first | refine blk_drewN ?_ _ | refine blk_drew ?_ | refine blk_alloc ?_ _)); refine blk_put (cs := #[.int .i64 t289, .int .i64 0, .int .i64 0, .slice none 0 0, .slice none 0 0]) ?_ 1 _ rfl; (with_reducible repeat (first | refine blk_drewN ?_ _ | refine blk_drew ?_ | refine blk_alloc ?_ _)); refine blk_put (cs := #[.int .i64 0, .int .i64 0, .int .i64 0, .slice none 0 0, .slice none 0 0]) ?_ 0 _ rfl; (with_reducible repeat (first | refine blk_drewN ?_ _ | refine blk_drew ?_ | refine blk_alloc ?_ _)); exact BK299.out) hb); have n14_ := Aside0.mk (below_step (pB HB) hb); clear HO265; clear HO272; clear HO275; clear HO283; clear HO286; clear HO294; clear HO297; clear BK261; clear BK266; clear BK277; clear BK288; clear BK299; clear HB; have HO265 := n0_; have HO272 := n1_; have HO275 := n2_; have HO283 := n3_; have HO286 := n4_; have HO294 := n5_; have HO297 := n6_; have HO305 := n7_; have HO308 := n8_; have BK261 := n9_; have BK266 := n10_; have BK277 := n11_; have BK288 := n12_; have BK299 := n13_; have HB := n14_; clear n0_ n1_ n2_ n3_ n4_ n5_ n6_ n7_ n8_ n9_ n10_ n11_ n12_ n13_ n14_; (try clear hb); (try clear hb2); (try clear hk); (try clear hi); (try clear ho0); (try clear ho1)) | ((with_reducible refine gate_dst (N := 18) rfl ?_); refine box_event ?hg (N := 18) ?hd (cs := #[.int .i64 0, .int .i64 0, .int .i64 0, .slice none 0 0, .slice none 0 0]) (t := 30) ?hr ?_; (case hd => rfl); (case hg => rfl); (case hr => first | (go_simp; done) | (go_simp; rfl)); intro gb310 hg w62 hbox hb; have n0_ := rB HO265 hb; have n1_ := rB HO272 hb; have n2_ := rB HO275 hb; have n3_ := rB HO283 hb; have n4_ := rB HO286 hb; have n5_ := rB HO294 hb; have n6_ := rB HO297 hb; have n7_ := rB HO305 hb; have n8_ := rB HO308 hb; have n9_ := bB BK261 hb; have n10_ := bB BK266 hb; have n11_ := bB BK277 hb; have n12_ := bB BK288 hb; have n13_ := bB BK299 hb; have n14_ := Aside0.mk (below_step (pB HB) hb); have n15_ := Aside0.mk (hbox); have n16_ := Aside0.mk ((by rw [hg]; exact (below_size (pB HB)) : w.heap.size ≤ gb310)); have n17_ := Aside0.mk ((by rw [hg]; exact (below_size (pB HB)) : w.heap.size ≤ gb310)); have n18_ := Aside0.mk ((by rw [hg]; exact Nat.ne_of_lt (blk_lt (g := gb261) (o := .cells #[.int .i64 a1_0, .int .i64 a1_1, .slice A1_2 l1_2.length c1_2] 27 (0, 0)) (by (with_reducible repeat (first | refine blk_drewN ?_ _ | refine blk_drew ?_ | refine blk_alloc ?_ _)); exact BK261.out)) : gb261 ≠ gb310)); have n19_ := Aside0.mk ((by rw [hg]; exact Nat.ne_of_gt (blk_lt (g := gb261) (o := .cells #[.int .i64 a1_0, .int .i64 a1_1, .slice A1_2 l1_2.length c1_2] 27 (0, 0)) (by (with_reducible repeat (first | refine blk_drewN ?_ _ | refine blk_drew ?_ | refine blk_alloc ?_ _)); exact BK261.out)) : gb310 ≠ gb261)); have n20_ := Aside0.mk ((by rw [hg]; exact Nat.ne_of_lt (blk_lt (g := gb266) (o := .cells #[.int .i64 (wrap64 (a2)), .int .i64 (wrap64 (a3)), .slice Ao29 y263.length co29] 27 (0, 0)) (by (with_reducible repeat (first | refine blk_drewN ?_ _ | refine blk_drew ?_ | refine blk_alloc ?_ _)); exact BK266.out)) : gb266 ≠ gb310)); have n21_ := Aside0.mk ((by rw [hg]; exact Nat.ne_of_gt (blk_lt (g := gb266) (o := .cells #[.int .i64 (wrap64 (a2)), .int .i64 (wrap64 (a3)), .slice Ao29 y263.length co29] 27 (0, 0)) (by (with_reducible repeat (first | refine blk_drewN ?_ _ | refine blk_drew ?_ | refine blk_alloc ?_ _)); exact BK266.out)) : gb310 ≠ gb266)); have n22_ := Aside0.mk ((by rw [hg]; exact Nat.ne_of_lt (blk_lt (g := gb277) (o := .cells #[.int .i64 t267, .int .i64 t268, .int .i64 t269, .slice Ao39 t270.length co39, .slice Ao40 t273.length co40] 30 (0, 0)) (by (with_reducible repeat (first | refine blk_drewN ?_ _ | refine blk_drew ?_ | refine blk_alloc ?_ _)); exact BK277.out)) : gb277 ≠ gb310)); have n23_ := Aside0.mk ((by rw [hg]; exact Nat.ne_of_gt (blk_lt (g := gb277) (o := .cells #[.int .i64 t267, .int .i64 t268, .int .i64 t269, .slice Ao39 t270.length co39, .slice Ao40 t273.length co40] 30 (0, 0)) (by (with_reducible repeat (first | refine blk_drewN ?_ _ | refine blk_drew ?_ | refine blk_alloc ?_ _)); exact BK277.out)) : gb310 ≠ gb277)); have n24_ := Aside0.mk ((by rw [hg]; exact Nat.ne_of_lt (blk_lt (g := gb288) (o := .cells #[.int .i64 t278, .int .i64 t279, .int .i64 t280, .slice Ao48 t281.length co48, .slice Ao49 t284.length co49] 30 (0, 0)) (by (with_reducible repeat (first | refine blk_drewN ?_ _ | refine blk_drew ?_ | refine blk_alloc ?_ _)); exact BK288.out)) : gb288 ≠ gb310)); have n25_ := Aside0.mk ((by rw [hg]; exact Nat.ne_of_gt (blk_lt (g := gb288) (o := .cells #[.int .i64 t278, .int .i64 t279, .int .i64 t280, .slice Ao48 t281.length co48, .slice Ao49 t284.length co49] 30 (0, 0)) (by (with_reducible repeat (first | refine blk_drewN ?_ _ | refine blk_drew ?_ | refine blk_alloc ?_ _)); exact BK288.out)) : gb310 ≠ gb288)); have n26_ := Aside0.mk ((by rw [hg]; exact Nat.ne_of_lt (blk_lt (g := gb299) (o := .cells #[.int .i64 t289, .int .i64 t290, .int .i64 t291, .slice Ao58 t292.length co58, .slice Ao59 t295.length co59] 30 (0, 0)) (by (with_reducible repeat (first | refine blk_drewN ?_ _ | refine blk_drew ?_ | refine blk_alloc ?_ _)); exact BK299.out)) : gb299 ≠ gb310)); have n27_ := Aside0.mk ((by rw [hg]; exact Nat.ne_of_gt (blk_lt (g := gb299) (o := .cells #[.int .i64 t289, .int .i64 t290, .int .i64 t291, .slice Ao58 t292.length co58, .slice Ao59 t295.length co59] 30 (0, 0)) (by (with_reducible repeat (first | refine blk_drewN ?_ _ | refine blk_drew ?_ | refine blk_alloc ?_ _)); exact BK299.out)) : gb310 ≠ gb299)); clear HO265; clear HO272; clear HO275; clear HO283; clear HO286; clear HO294; clear HO297; clear HO305; clear HO308; clear BK261; clear BK266; clear BK277; clear BK288; clear BK299; clear HB; have HO265 := n0_; have HO272 := n1_; have HO275 := n2_; have HO283 := n3_; have HO286 := n4_; have HO294 := n5_; have HO297 := n6_; have HO305 := n7_; have HO308 := n8_; have BK261 := n9_; have BK266 := n10_; have BK277 := n11_; have BK288 := n12_; have BK299 := n13_; have HB := n14_; have BK310 := n15_; have GW310 := n16_; have GE310 := n17_; have NB261_310 := n18_; have NB310_261 := n19_; have NB266_310 := n20_; have NB310_266 := n21_; have NB277_310 := n22_; have NB310_277 := n23_; have NB288_310 := n24_; have NB310_288 := n25_; have NB299_310 := n26_; have NB310_299 := n27_; clear n0_ n1_ n2_ n3_ n4_ n5_ n6_ n7_ n8_ n9_ n10_ n11_ n12_ n13_ n14_ n15_ n16_ n17_ n18_ n19_ n20_ n21_ n22_ n23_ n24_ n25_ n26_ n27_; clear hb hbox hg; have hnb63 := NB310_261.out; have hnc63 := NB261_310.out; have hnb64 := NB310_266.out; have hnc64 := NB266_310.out; have hnb65 := NB310_277.out; have hnc65 := NB277_310.out; have hnb66 := NB310_288.out; have hnc66 := NB288_310.out; have hnb67 := NB310_299.out; have hnc67 := NB299_310.out; obtain ⟨hcz68_0, hcz68_1, hcz68_2, hcz68_3, hcz68_4⟩ := cells5 BK310; obtain ⟨hfz68_0, hfz68_1, hfz68_2, hfz68_3, hfz68_4⟩ := frz5 BK310; obtain ⟨Ao69, co69, eo69⟩ := Kd.R_slice HO305.out; subst eo69; obtain ⟨Ao70, co70, eo70⟩ := Kd.R_slice HO308.out; subst eo70) | ((with_reducible refine gate_callee (f := 14) rfl ?_); refine goesL_ (some 57) rfl rfl Try.func14 (by kernel_rfl) rfl #[] rfl (by (try simp only [List.map_toArray, List.map_cons, List.map_nil]); first | done | rfl | (simp only [List.length_drop, List.length_take]; rfl)) ?_; (with_reducible refine (insolvencylaw33_awake.calls k  true _ A18.out).mono ?_); rintro e w71 ⟨rfl, hb⟩; refine ⟨_, rfl, ?_⟩; have n0_ := Aside0.mk (Kd.R_below (by (with_reducible repeat (first | apply Kd.R_alloc | apply Kd.R_drewN | apply Kd.R_drew)); exact (Kd.R_mono (Kd.R_far (p := ⟨gb310, 4, none⟩) (Kd.R_far (p := ⟨gb310, 3, none⟩) (Kd.R_far (p := ⟨gb310, 2, none⟩) (Kd.R_far (p := ⟨gb310, 1, none⟩) (Kd.R_far (p := ⟨gb310, 0, none⟩) (Kd.R_types HO265.out BK310.out (by decide)) (fun _ hk => hk.2) (.int .i64 t300)) (fun _ hk => hk.2) (.int .i64 t301)) (fun _ hk => hk.2) (.int .i64 t302)) (fun _ hk => hk.2) (.slice Ao69 t303.length co69)) (fun _ hk => hk.2) (.slice Ao70 t306.length co70)) (fun _ h_ => h_.1))) hb); have n1_ := Aside0.mk (Kd.R_below (by (with_reducible repeat (first | apply Kd.R_alloc | apply Kd.R_drewN | apply Kd.R_drew)); exact (Kd.R_mono (Kd.R_far (p := ⟨gb310, 4, none⟩) (Kd.R_far (p := ⟨gb310, 3, none⟩) (Kd.R_far (p := ⟨gb310, 2, none⟩) (Kd.R_far (p := ⟨gb310, 1, none⟩) (Kd.R_far (p := ⟨gb310, 0, none⟩) (Kd.R_types HO272.out BK310.out (by decide)) (fun _ hk => hk.2) (.int .i64 t300)) (fun _ hk => hk.2) (.int .i64 t301)) (fun _ hk => hk.2) (.int .i64 t302)) (fun _ hk => hk.2) (.slice Ao69 t303.length co69)) (fun _ hk => hk.2) (.slice Ao70 t306.length co70)) (fun _ h_ => h_.1))) hb); have n2_ := Aside0.mk (Kd.R_below (by (with_reducible repeat (first | apply Kd.R_alloc | apply Kd.R_drewN | apply Kd.R_drew)); exact (Kd.R_mono (Kd.R_far (p := ⟨gb310, 4, none⟩) (Kd.R_far (p := ⟨gb310, 3, none⟩) (Kd.R_far (p := ⟨gb310, 2, none⟩) (Kd.R_far (p := ⟨gb310, 1, none⟩) (Kd.R_far (p := ⟨gb310, 0, none⟩) (Kd.R_types HO275.out BK310.out (by decide)) (fun _ hk => hk.2) (.int .i64 t300)) (fun _ hk => hk.2) (.int .i64 t301)) (fun _ hk => hk.2) (.int .i64 t302)) (fun _ hk => hk.2) (.slice Ao69 t303.length co69)) (fun _ hk => hk.2) (.slice Ao70 t306.length co70)) (fun _ h_ => h_.1))) hb); have n3_ := Aside0.mk (Kd.R_below (by (with_reducible repeat (first | apply Kd.R_alloc | apply Kd.R_drewN | apply Kd.R_drew)); exact (Kd.R_mono (Kd.R_far (p := ⟨gb310, 4, none⟩) (Kd.R_far (p := ⟨gb310, 3, none⟩) (Kd.R_far (p := ⟨gb310, 2, none⟩) (Kd.R_far (p := ⟨gb310, 1, none⟩) (Kd.R_far (p := ⟨gb310, 0, none⟩) (Kd.R_types HO283.out BK310.out (by decide)) (fun _ hk => hk.2) (.int .i64 t300)) (fun _ hk => hk.2) (.int .i64 t301)) (fun _ hk => hk.2) (.int .i64 t302)) (fun _ hk => hk.2) (.slice Ao69 t303.length co69)) (fun _ hk => hk.2) (.slice Ao70 t306.length co70)) (fun _ h_ => h_.1))) hb); have n4_ := Aside0.mk (Kd.R_below (by (with_reducible repeat (first | apply Kd.R_alloc | apply Kd.R_drewN | apply Kd.R_drew)); exact (Kd.R_mono (Kd.R_far (p := ⟨gb310, 4, none⟩) (Kd.R_far (p := ⟨gb310, 3, none⟩) (Kd.R_far (p := ⟨gb310, 2, none⟩) (Kd.R_far (p := ⟨gb310, 1, none⟩) (Kd.R_far (p := ⟨gb310, 0, none⟩) (Kd.R_types HO286.out BK310.out (by decide)) (fun _ hk => hk.2) (.int .i64 t300)) (fun _ hk => hk.2) (.int .i64 t301)) (fun _ hk => hk.2) (.int .i64 t302)) (fun _ hk => hk.2) (.slice Ao69 t303.length co69)) (fun _ hk => hk.2) (.slice Ao70 t306.length co70)) (fun _ h_ => h_.1))) hb); have n5_ := Aside0.mk (Kd.R_below (by (with_reducible repeat (first | apply Kd.R_alloc | apply Kd.R_drewN | apply Kd.R_drew)); exact (Kd.R_mono (Kd.R_far (p := ⟨gb310, 4, none⟩) (Kd.R_far (p := ⟨gb310, 3, none⟩) (Kd.R_far (p := ⟨gb310, 2, none⟩) (Kd.R_far (p := ⟨gb310, 1, none⟩) (Kd.R_far (p := ⟨gb310, 0, none⟩) (Kd.R_types HO294.out BK310.out (by decide)) (fun _ hk => hk.2) (.int .i64 t300)) (fun _ hk => hk.2) (.int .i64 t301)) (fun _ hk => hk.2) (.int .i64 t302)) (fun _ hk => hk.2) (.slice Ao69 t303.length co69)) (fun _ hk => hk.2) (.slice Ao70 t306.length co70)) (fun _ h_ => h_.1))) hb); have n6_ := Aside0.mk (Kd.R_below (by (with_reducible repeat (first | apply Kd.R_alloc | apply Kd.R_drewN | apply Kd.R_drew)); exact (Kd.R_mono (Kd.R_far (p := ⟨gb310, 4, none⟩) (Kd.R_far (p := ⟨gb310, 3, none⟩) (Kd.R_far (p := ⟨gb310, 2, none⟩) (Kd.R_far (p := ⟨gb310, 1, none⟩) (Kd.R_far (p := ⟨gb310, 0, none⟩) (Kd.R_types HO297.out BK310.out (by decide)) (fun _ hk => hk.2) (.int .i64 t300)) (fun _ hk => hk.2) (.int .i64 t301)) (fun _ hk => hk.2) (.int .i64 t302)) (fun _ hk => hk.2) (.slice Ao69 t303.length co69)) (fun _ hk => hk.2) (.slice Ao70 t306.length co70)) (fun _ h_ => h_.1))) hb); have n7_ := Aside0.mk (Kd.R_below (by (with_reducible repeat (first | apply Kd.R_alloc | apply Kd.R_drewN | apply Kd.R_drew)); exact (Kd.R_mono (Kd.R_far (p := ⟨gb310, 4, none⟩) (Kd.R_far (p := ⟨gb310, 3, none⟩) (Kd.R_far (p := ⟨gb310, 2, none⟩) (Kd.R_far (p := ⟨gb310, 1, none⟩) (Kd.R_far (p := ⟨gb310, 0, none⟩) (Kd.R_types HO305.out BK310.out (by decide)) (fun _ hk => hk.2) (.int .i64 t300)) (fun _ hk => hk.2) (.int .i64 t301)) (fun _ hk => hk.2) (.int .i64 t302)) (fun _ hk => hk.2) (.slice Ao69 t303.length co69)) (fun _ hk => hk.2) (.slice Ao70 t306.length co70)) (fun _ h_ => h_.1))) hb); have n8_ := Aside0.mk (Kd.R_below (by (with_reducible repeat (first | apply Kd.R_alloc | apply Kd.R_drewN | apply Kd.R_drew)); exact (Kd.R_mono (Kd.R_far (p := ⟨gb310, 4, none⟩) (Kd.R_far (p := ⟨gb310, 3, none⟩) (Kd.R_far (p := ⟨gb310, 2, none⟩) (Kd.R_far (p := ⟨gb310, 1, none⟩) (Kd.R_far (p := ⟨gb310, 0, none⟩) (Kd.R_types HO308.out BK310.out (by decide)) (fun _ hk => hk.2) (.int .i64 t300)) (fun _ hk => hk.2) (.int .i64 t301)) (fun _ hk => hk.2) (.int .i64 t302)) (fun _ hk => hk.2) (.slice Ao69 t303.length co69)) (fun _ hk => hk.2) (.slice Ao70 t306.length co70)) (fun _ h_ => h_.1))) hb); have n9_ := Aside0.mk (blk_below (g := gb261) (o := .cells #[.int .i64 a1_0, .int .i64 a1_1, .slice A1_2 l1_2.length c1_2] 27 (0, 0)) (by (with_reducible repeat (first | refine blk_drewN ?_ _ | refine blk_drew ?_ | refine blk_alloc ?_ _)); refine blk_far ?_ NB261_310.out _; (with_reducible repeat (first | refine blk_drewN ?_ _ | refine blk_drew ?_ | refine blk_alloc ?_ _)); refine blk_far ?_ NB261_310.out _; (with_reducible repeat (first | refine blk_drewN ?_ _ | refine blk_drew ?_ | refine blk_alloc ?_ _)); refine blk_far ?_ NB261_310.out _; (with_reducible repeat (first | refine blk_drewN ?_ _ | refine blk_drew ?_ | refine blk_alloc ?_ _)); refine blk_far ?_ NB261_310.out _; (with_reducible repeat (first | refine blk_drewN ?_ _ | refine blk_drew ?_ | refine blk_alloc ?_ _)); refine blk_far ?_ NB261_310.out _; (with_reducible repeat (first | refine blk_drewN ?_ _ | refine blk_drew ?_ | refine blk_alloc ?_ _)); exact BK261.out) hb); have n10_ := Aside0.mk (blk_below (g := gb266) (o := .cells #[.int .i64 (wrap64 (a2)), .int .i64 (wrap64 (a3)), .slice Ao29 y263.length co29] 27 (0, 0)) (by (with_reducible repeat (first | refine blk_drewN ?_ _ | refine blk_drew ?_ | refine blk_alloc ?_ _)); refine blk_far ?_ NB266_310.out _; (with_reducible repeat (first | refine blk_drewN ?_ _ | refine blk_drew ?_ | refine blk_alloc ?_ _)); refine blk_far ?_ NB266_310.out _; (with_reducible repeat (first | refine blk_drewN ?_ _ | refine blk_drew ?_ | refine blk_alloc ?_ _)); refine blk_far ?_ NB266_310.out _; (with_reducible repeat (first | refine blk_drewN ?_ _ | refine blk_drew ?_ | refine blk_alloc ?_ _)); refine blk_far ?_ NB266_310.out _; (with_reducible repeat (first | refine blk_drewN ?_ _ | refine blk_drew ?_ | refine blk_alloc ?_ _)); refine blk_far ?_ NB266_310.out _; (with_reducible repeat (first | refine blk_drewN ?_ _ | refine blk_drew ?_ | refine blk_alloc ?_ _)); exact BK266.out) hb); have n11_ := Aside0.mk (blk_below (g := gb277) (o := .cells #[.int .i64 t267, .int .i64 t268, .int .i64 t269, .slice Ao39 t270.length co39, .slice Ao40 t273.length co40] 30 (0, 0)) (by (with_reducible repeat (first | refine blk_drewN ?_ _ | refine blk_drew ?_ | refine blk_alloc ?_ _)); refine blk_far ?_ NB277_310.out _; (with_reducible repeat (first | refine blk_drewN ?_ _ | refine blk_drew ?_ | refine blk_alloc ?_ _)); refine blk_far ?_ NB277_310.out _; (with_reducible repeat (first | refine blk_drewN ?_ _ | refine blk_drew ?_ | refine blk_alloc ?_ _)); refine blk_far ?_ NB277_310.out _; (with_reducible repeat (first | refine blk_drewN ?_ _ | refine blk_drew ?_ | refine blk_alloc ?_ _)); refine blk_far ?_ NB277_310.out _; (with_reducible repeat (first | refine blk_drewN ?_ _ | refine blk_drew ?_ | refine blk_alloc ?_ _)); refine blk_far ?_ NB277_310.out _; (with_reducible repeat (first | refine blk_drewN ?_ _ | refine blk_drew ?_ | refine blk_alloc ?_ _)); exact BK277.out) hb); have n12_ := Aside0.mk (blk_below (g := gb288) (o := .cells #[.int .i64 t278, .int .i64 t279, .int .i64 t280, .slice Ao48 t281.length co48, .slice Ao49 t284.length co49] 30 (0, 0)) (by (with_reducible repeat (first | refine blk_drewN ?_ _ | refine blk_drew ?_ | refine blk_alloc ?_ _)); refine blk_far ?_ NB288_310.out _; (with_reducible repeat (first | refine blk_drewN ?_ _ | refine blk_drew ?_ | refine blk_alloc ?_ _)); refine blk_far ?_ NB288_310.out _; (with_reducible repeat (first | refine blk_drewN ?_ _ | refine blk_drew ?_ | refine blk_alloc ?_ _)); refine blk_far ?_ NB288_310.out _; (with_reducible repeat (first | refine blk_drewN ?_ _ | refine blk_drew ?_ | refine blk_alloc ?_ _)); refine blk_far ?_ NB288_310.out _; (with_reducible repeat (first | refine blk_drewN ?_ _ | refine blk_drew ?_ | refine blk_alloc ?_ _)); refine blk_far ?_ NB288_310.out _; (with_reducible repeat (first | refine blk_drewN ?_ _ | refine blk_drew ?_ | refine blk_alloc ?_ _)); exact BK288.out) hb); have n13_ := Aside0.mk (blk_below (g := gb299) (o := .cells #[.int .i64 t289, .int .i64 t290, .int .i64 t291, .slice Ao58 t292.length co58, .slice Ao59 t295.length co59] 30 (0, 0)) (by (with_reducible repeat (first | refine blk_drewN ?_ _ | refine blk_drew ?_ | refine blk_alloc ?_ _)); refine blk_far ?_ NB299_310.out _; (with_reducible repeat (first | refine blk_drewN ?_ _ | refine blk_drew ?_ | refine blk_alloc ?_ _)); refine blk_far ?_ NB299_310.out _; (with_reducible repeat (first | refine blk_drewN ?_ _ | refine blk_drew ?_ | refine blk_alloc ?_ _)); refine blk_far ?_ NB299_310.out _; (with_reducible repeat (first | refine blk_drewN ?_ _ | refine blk_drew ?_ | refine blk_alloc ?_ _)); refine blk_far ?_ NB299_310.out _; (with_reducible repeat (first | refine blk_drewN ?_ _ | refine blk_drew ?_ | refine blk_alloc ?_ _)); refine blk_far ?_ NB299_310.out _; (with_reducible repeat (first | refine blk_drewN ?_ _ | refine blk_drew ?_ | refine blk_alloc ?_ _)); exact BK299.out) hb); have n14_ := Aside0.mk (blk_below (g := gb310) (o := .cells #[.int .i64 t300, .int .i64 t301, .int .i64 t302, .slice Ao69 t303.length co69, .slice Ao70 t306.length co70] 30 (0, 0)) (by (with_reducible repeat (first | refine blk_drewN ?_ _ | refine blk_drew ?_ | refine blk_alloc ?_ _)); refine blk_put (cs := #[.int .i64 t300, .int .i64 t301, .int .i64 t302, .slice Ao69 t303.length co69, .slice none 0 0]) ?_ 4 _ rfl; (with_reducible repeat (first | refine blk_drewN ?_ _ | refine blk_drew ?_ | refine blk_alloc ?_ _)); refine blk_put (cs := #[.int .i64 t300, .int .i64 t301, .int .i64 t302, .slice none 0 0, .slice none 0 0]) ?_ 3 _ rfl; (with_reducible repeat (first | refine blk_drewN ?_ _ | refine blk_drew ?_ | refine blk_alloc ?_ _)); refine blk_put (cs := #[.int .i64 t300, .int .i64 t301, .int .i64 0, .slice none 0 0, .slice none 0 0]) ?_ 2 _ rfl; (with_reducible repeat (first | refine blk_drewN ?_ _ | refine blk_drew ?_ | refine blk_alloc ?_ _)); refine blk_put (cs := #[.int .i64 t300, .int .i64 0, .int .i64 0, .slice none 0 0, .slice none 0 0]) ?_ 1 _ rfl; (with_reducible repeat (first | refine blk_drewN ?_ _ | refine blk_drew ?_ | refine blk_alloc ?_ _)); refine blk_put (cs := #[.int .i64 0, .int .i64 0, .int .i64 0, .slice none 0 0, .slice none 0 0]) ?_ 0 _ rfl; (with_reducible repeat (first | refine blk_drewN ?_ _ | refine blk_drew ?_ | refine blk_alloc ?_ _)); exact BK310.out) hb); have n15_ := Aside0.mk (below_step (pB HB) hb); clear HO265; clear HO272; clear HO275; clear HO283; clear HO286; clear HO294; clear HO297; clear HO305; clear HO308; clear BK261; clear BK266; clear BK277; clear BK288; clear BK299; clear BK310; clear HB; have HO265 := n0_; have HO272 := n1_; have HO275 := n2_; have HO283 := n3_; have HO286 := n4_; have HO294 := n5_; have HO297 := n6_; have HO305 := n7_; have HO308 := n8_; have BK261 := n9_; have BK266 := n10_; have BK277 := n11_; have BK288 := n12_; have BK299 := n13_; have BK310 := n14_; have HB := n15_; clear n0_ n1_ n2_ n3_ n4_ n5_ n6_ n7_ n8_ n9_ n10_ n11_ n12_ n13_ n14_ n15_; (try clear hb); (try clear hb2); (try clear hk); (try clear hi); obtain ⟨hcz72_0, hcz72_1, hcz72_2, hcz72_3, hcz72_4⟩ := cells5 BK277; obtain ⟨hfz72_0, hfz72_1, hfz72_2, hfz72_3, hfz72_4⟩ := frz5 BK277; obtain ⟨hcz73_0, hcz73_1, hcz73_2, hcz73_3, hcz73_4⟩ := cells5 BK288; obtain ⟨hfz73_0, hfz73_1, hfz73_2, hfz73_3, hfz73_4⟩ := frz5 BK288) | (go_at_call 15; (with_reducible refine (insolvencyref33_SameDocket.calls k t267 t268 t269 _ _ t270 _ _ t273 t278 t279 t280 _ _ t281 _ _ t284 true _ ?side1 ?side2 ?side3 ?side4 ?side5 ?side6 ?side7 ?side8 A21.out).mono ?_); (case side1 => repeat (first | exact (Kd.R_reads' HO272.out).2.2 | (with_reducible refine Kd.C_alloc ?_ _) | (with_reducible refine Kd.C_drewN ?_ _) | (with_reducible refine Kd.C_drew ?_))); (case side2 => exact (Kd.R_reads' HO272.out).2.1); (case side3 => repeat (first | exact (Kd.R_reads' HO275.out).2.2 | (with_reducible refine Kd.C_alloc ?_ _) | (with_reducible refine Kd.C_drewN ?_ _) | (with_reducible refine Kd.C_drew ?_))); (case side4 => exact (Kd.R_reads' HO275.out).2.1); (case side5 => repeat (first | exact (Kd.R_reads' HO283.out).2.2 | (with_reducible refine Kd.C_alloc ?_ _) | (with_reducible refine Kd.C_drewN ?_ _) | (with_reducible refine Kd.C_drew ?_))); (case side6 => exact (Kd.R_reads' HO283.out).2.1); (case side7 => repeat (first | exact (Kd.R_reads' HO286.out).2.2 | (with_reducible refine Kd.C_alloc ?_ _) | (with_reducible refine Kd.C_drewN ?_ _) | (with_reducible refine Kd.C_drew ?_))); (case side8 => exact (Kd.R_reads' HO286.out).2.1); rintro e w74 ⟨rfl, hb⟩; have n0_ := rB HO265 hb; have n1_ := rB HO272 hb; have n2_ := rB HO275 hb; have n3_ := rB HO283 hb; have n4_ := rB HO286 hb; have n5_ := rB HO294 hb; have n6_ := rB HO297 hb; have n7_ := rB HO305 hb; have n8_ := rB HO308 hb; have n9_ := bB BK261 hb; have n10_ := bB BK266 hb; have n11_ := bB BK277 hb; have n12_ := bB BK288 hb; have n13_ := bB BK299 hb; have n14_ := bB BK310 hb; have n15_ := Aside0.mk (below_step (pB HB) hb); clear HO265; clear HO272; clear HO275; clear HO283; clear HO286; clear HO294; clear HO297; clear HO305; clear HO308; clear BK261; clear BK266; clear BK277; clear BK288; clear BK299; clear BK310; clear HB; have HO265 := n0_; have HO272 := n1_; have HO275 := n2_; have HO283 := n3_; have HO286 := n4_; have HO294 := n5_; have HO297 := n6_; have HO305 := n7_; have HO308 := n8_; have BK261 := n9_; have BK266 := n10_; have BK277 := n11_; have BK288 := n12_; have BK299 := n13_; have BK310 := n14_; have HB := n15_; clear n0_ n1_ n2_ n3_ n4_ n5_ n6_ n7_ n8_ n9_ n10_ n11_ n12_ n13_ n14_ n15_; (try clear hb); (try clear hb2); (try clear hk); (try clear hi); obtain ⟨hcz75_0, hcz75_1, hcz75_2, hcz75_3, hcz75_4⟩ := cells5 BK299; obtain ⟨hfz75_0, hfz75_1, hfz75_2, hfz75_3, hfz75_4⟩ := frz5 BK299; obtain ⟨hcz76_0, hcz76_1, hcz76_2, hcz76_3, hcz76_4⟩ := cells5 BK310; obtain ⟨hfz76_0, hfz76_1, hfz76_2, hfz76_3, hfz76_4⟩ := frz5 BK310) | (go_at_call 15; (with_reducible refine (insolvencyref33_SameDocket.calls k t289 t290 t291 _ _ t292 _ _ t295 t300 t301 t302 _ _ t303 _ _ t306 t313 _ ?side1 ?side2 ?side3 ?side4 ?side5 ?side6 ?side7 ?side8 A24.out).mono ?_); (case side1 => repeat (first | exact (Kd.R_reads' HO294.out).2.2 | (with_reducible refine Kd.C_alloc ?_ _) | (with_reducible refine Kd.C_drewN ?_ _) | (with_reducible refine Kd.C_drew ?_))); (case side2 => exact (Kd.R_reads' HO294.out).2.1); (case side3 => repeat (first | exact (Kd.R_reads' HO297.out).2.2 | (with_reducible refine Kd.C_alloc ?_ _) | (with_reducible refine Kd.C_drewN ?_ _) | (with_reducible refine Kd.C_drew ?_))); (case side4 => exact (Kd.R_reads' HO297.out).2.1); (case side5 => repeat (first | exact (Kd.R_reads' HO305.out).2.2 | (with_reducible refine Kd.C_alloc ?_ _) | (with_reducible refine Kd.C_drewN ?_ _) | (with_reducible refine Kd.C_drew ?_))); (case side6 => exact (Kd.R_reads' HO305.out).2.1); (case side7 => repeat (first | exact (Kd.R_reads' HO308.out).2.2 | (with_reducible refine Kd.C_alloc ?_ _) | (with_reducible refine Kd.C_drewN ?_ _) | (with_reducible refine Kd.C_drew ?_))); (case side8 => exact (Kd.R_reads' HO308.out).2.1); rintro e w77 ⟨rfl, hb⟩; have n0_ := rB HO265 hb; have n1_ := rB HO272 hb; have n2_ := rB HO275 hb; have n3_ := rB HO283 hb; have n4_ := rB HO286 hb; have n5_ := rB HO294 hb; have n6_ := rB HO297 hb; have n7_ := rB HO305 hb; have n8_ := rB HO308 hb; have n9_ := bB BK261 hb; have n10_ := bB BK266 hb; have n11_ := bB BK277 hb; have n12_ := bB BK288 hb; have n13_ := bB BK299 hb; have n14_ := bB BK310 hb; have n15_ := Aside0.mk (below_step (pB HB) hb); clear HO265; clear HO272; clear HO275; clear HO283; clear HO286; clear HO294; clear HO297; clear HO305; clear HO308; clear BK261; clear BK266; clear BK277; clear BK288; clear BK299; clear BK310; clear HB; have HO265 := n0_; have HO272 := n1_; have HO275 := n2_; have HO283 := n3_; have HO286 := n4_; have HO294 := n5_; have HO297 := n6_; have HO305 := n7_; have HO308 := n8_; have BK261 := n9_; have BK266 := n10_; have BK277 := n11_; have BK288 := n12_; have BK299 := n13_; have BK310 := n14_; have HB := n15_; clear n0_ n1_ n2_ n3_ n4_ n5_ n6_ n7_ n8_ n9_ n10_ n11_ n12_ n13_ n14_ n15_; (try clear hb); (try clear hb2); (try clear hk); (try clear hi)))
        go_ret
        exact ⟨by first | rfl | (simp [errW_none, errW_some] <;> rfl) | (simp only [← hji11]; first | rfl | (simp [errW_none, errW_some] <;> rfl)) | (simp [*, errW_none, errW_some] <;> rfl), pB HB⟩
       ·rw [if_neg c23] at H
        exact absurd H (by simp)
      ·replace c22 := Bool.eq_false_iff.mpr c22
       subst c22
       have H1 : (none) = some r := by rw [if_neg (show ¬ (false = true) by decide)] at H; exact H
       clear H
       have H := H1
       clear H1
       exact absurd H (by simp)
     ·rw [if_neg c20] at H
      exact absurd H (by simp)
    ·replace c19 := Bool.eq_false_iff.mpr c19
     subst c19
     have H1 : (none) = some r := by rw [if_neg (show ¬ (false = true) by decide)] at H; exact H
     clear H
     have H := H1
     clear H1
     exact absurd H (by simp)
   ·rw [if_neg c13] at H
    exact absurd H (by simp)
  ·rw [if_neg c12] at H
   exact absurd H (by simp)

end Go.Proofs.Ytpfiecjacpbhkaa.D

-- The print's words, those alone that this claim's texts mention: struck by a program of this session's.
-- PRINTED WORDS (module Derived/Print/Sized.lean): go-gate-2's, for the rows of laws over slices: an AI agent of Go's test side, Tue Nov 17 2026; no person has read it. Lean checks it.
namespace Go.Proofs.YtpfiecjacpbhkaaW.PrintWords
open Go.ChangeShapes Go.WideShapes
end Go.Proofs.YtpfiecjacpbhkaaW.PrintWords

/- Arguments of the laws, opened: structs and small arrays of plain fields, slices of these and of integers: each told as_ a Lean list, with what the reader says of its numbers. -/
namespace Go.Proofs.Ytpfiecjacpbhkaa.Ho
open Go.RowKit Go.ChangeShapes Go.WideShapes Go.Deep Go.Proofs.YtpfiecjacpbhkaaW.PrintWords
open Go.Proofs.Ytpfiecjacpbhkaa.D

/-- Row by row, a list. -/
theorem rows_of {α : Type} {R : α → List Value → Prop} (ok : α → Prop) {size : Nat} {w : World} {A : Option Addr} {n : Nat} (hn : n ≤ maxLen)
    (h : 0 < n → ∃ ad, A = some ad ∧ ∀ i, i < n → ∃ x c, c.length = size ∧ R x c ∧ ok x ∧ ∀ j u, c[j]? = some u → w.cell? (ad.add (i * size + j)) = some u) :
    ∃ l : List α, n = l.length ∧ ReadsRow R size w A l.length l ∧ ∀ x ∈ l, ok x := by
  rcases Nat.eq_zero_or_pos n with h0 | hp
  · subst h0
    exact ⟨[], rfl, ⟨rfl, Nat.zero_le _, fun h => absurd h (Nat.lt_irrefl 0)⟩, fun x hx => by cases hx⟩
  · obtain ⟨ad, eA, hrow⟩ := h hp
    have key : ∀ m, m ≤ n → ∃ l : List α, l.length = m ∧ (∀ (j : Nat) (p : α), l[j]? = some p → ∃ c : List Value, c.length = size ∧ R p c ∧ ∀ i u, c[i]? = some u → w.cell? (ad.add (j * size + i)) = some u) ∧ ∀ x ∈ l, ok x := by
      intro m
      induction m with
      | zero => exact fun _ => ⟨[], rfl, fun j p hj => by simp at hj, fun x hx => by cases hx⟩
      | succ m ih =>
        intro hm
        obtain ⟨l, hl, hr, hok⟩ := ih (by omega)
        obtain ⟨x, c, hs, hR, hx, hcell⟩ := hrow m (by omega)
        refine ⟨l ++ [x], by simp [hl], ?_, ?_⟩
        · intro j p hj
          by_cases hlt : j < l.length
          · rw [List.getElem?_append_left hlt] at hj
            exact hr j p hj
          · have hle : l.length ≤ j := by omega
            rw [List.getElem?_append_right hle] at hj
            have e0 : j - l.length = 0 := by
              rcases Nat.eq_zero_or_pos (j - l.length) with e | e
              · exact e
              · rw [List.getElem?_eq_none (by simp; omega)] at hj
                cases hj
            rw [e0] at hj
            have ej : j = m := by omega
            subst ej
            have ex : x = p := by simpa using hj
            subst ex
            exact ⟨c, hs, hR, hcell⟩
        · intro y hy
          rcases List.mem_append.1 hy with h1 | h1
          · exact hok y h1
          · have : y = x := by simpa using h1
            subst this
            exact hx
    obtain ⟨l, hl, hr, hok⟩ := key n (Nat.le_refl _)
    refine ⟨l, hl.symm, ⟨rfl, ?_, fun _ => ⟨ad, eA, hr⟩⟩, hok⟩
    rw [hl]
    unfold maxLen at hn
    omega

section
variable {H : Type} {enc : TypeId × Value → H} {P : Program} {w : World} {base : Nat} {spare : Nat → Bool} {held : Bool}

/-- What the reader reads of type e, read as_ R, with 'ok'. -/
def Reads (enc : TypeId × Value → H) (P : Program) (w : World) (base : Nat) (spare : Nat → Bool) (held : Bool) {α : Type} (e : TypeId) (R : α → List Value → Prop) (ok : α → Prop) : Prop :=
  ∀ (n : Nat) (cs : List Value) (x : DataW H × List MemPlace), cs.length = P.cellsOf e → DataW.trod enc P w base spare held n e cs = some x → ∃ a : α, R a cs ∧ ok a

theorem reads_int {t : TypeId} {k : IntKind} (ht : P.underlying t = some (.int k)) : Reads enc P w base spare held t (fun (a : Int) cs => cs = [.int k a]) (fun a => (Lit.int k a).wf = true) := by
  intro n cs x _ h
  cases n with
  | zero => simp [DataW.trod] at h
  | succ n =>
    unfold DataW.trod at h
    rw [ht] at h
    split at h <;> simp_all

theorem reads_bool {t : TypeId} (ht : P.underlying t = some .bool) : Reads enc P w base spare held t (fun (a : Bool) cs => cs = [.bool a]) (fun _ => True) := by
  intro n cs x _ h
  cases n with
  | zero => simp [DataW.trod] at h
  | succ n =>
    unfold DataW.trod at h
    rw [ht] at h
    split at h <;> simp_all

/-- A slice's own length (in bytes, from the sizes), its cells row by row. -/
theorem open_rows {α : Type} {t e : TypeId} {R : α → List Value → Prop} {ok : α → Prop} {v : Value} {d : DataW H} {p : List MemPlace} {r : Reach} {b0 : Nat} (ht : P.underlying t = some (.slice e)) (hv : Value.okWide P w r b0 t v)
    (h : DataW.Trod enc P w base spare held t v d p) (hR : Reads enc P w base spare held e R ok) :
    ∃ (A : Option Addr) (l : List α) (cap : Nat), v = .slice A l.length cap ∧ l.length ≤ cap ∧ l.length ≤ maxLen ∧ ReadsRow R (P.cellsOf e) w A l.length l ∧ ∀ x ∈ l, ok x := by
  obtain ⟨A, len, cap, rfl⟩ := okWide_slice ht hv
  obtain ⟨fuel, hf⟩ := h
  rcases open_slice ht hf with ⟨hcs, _⟩ | ⟨a, len', cap', m, n, D, Pl, hcs, _, hl, hm, hmm, _, hi⟩
  · simp [Value.cells] at hcs
    obtain ⟨rfl, rfl, rfl⟩ := hcs
    exact ⟨none, [], 0, rfl, Nat.zero_le _, Nat.zero_le _, ⟨rfl, Nat.zero_le _, fun h => absurd h (Nat.lt_irrefl 0)⟩, fun x hx => by cases hx⟩
  · simp [Value.cells] at hcs
    obtain ⟨rfl, rfl, rfl⟩ := hcs
    have hlm : len ≤ m := by rw [hmm]; split <;> omega
    obtain ⟨l, rfl, hr, hok⟩ := rows_of (R := R) (w := w) (A := some a) (size := P.cellsOf e) ok (n := len) (by omega) (fun _ => ⟨a, rfl, fun i hi' => by
      obtain ⟨cs', hc, ht'⟩ := hi i (by omega)
      obtain ⟨_, hcl, hat⟩ := World.cells?_some hc
      obtain ⟨x, hx, hx'⟩ := hR n cs' _ hcl ht'
      refine ⟨x, cs', hcl, hx, hx', fun j u hu => ?_⟩
      have hj : j < cs'.length := (List.getElem?_eq_some_iff.1 hu).1
      rw [← Go.Deep.add_add, hat j (by omega), hu]⟩)
    exact ⟨some a, l, cap, rfl, hl, by omega, hr, hok⟩

/-- A struct by value. -/
theorem open_struct {α : Type} {t : TypeId} {fs : Array Field} {R : α → List Value → Prop} {ok : α → Prop} {v : Value} {d : DataW H} {p : List MemPlace} {r : Reach} {b0 : Nat} (ht : P.underlying t = some (.struct fs)) (hv : Value.okWide P w r b0 t v)
    (h : DataW.Trod enc P w base spare held t v d p) (hR : Reads enc P w base spare held t R ok) : ∃ (cs : List Value) (a : α), v = .agg cs.toArray ∧ R a cs ∧ ok a := by
  obtain ⟨cs, rfl, hsz⟩ := okWide_struct ht hv
  obtain ⟨fuel, hf⟩ := h
  obtain ⟨l⟩ := cs
  have e1 : (Value.agg ⟨l⟩).cells.toList = l := by simp [Value.cells]
  rw [e1] at hf
  obtain ⟨a, ha, ha'⟩ := hR fuel l _ (by simpa using hsz) hf
  exact ⟨l, a, rfl, ha, ha'⟩

/-- An array by value. -/
theorem open_array {α : Type} {t e : TypeId} {n : Nat} {R : α → List Value → Prop} {ok : α → Prop} {v : Value} {d : DataW H} {p : List MemPlace} {r : Reach} {b0 : Nat} (ht : P.underlying t = some (.array n e)) (hv : Value.okWide P w r b0 t v)
    (h : DataW.Trod enc P w base spare held t v d p) (hR : Reads enc P w base spare held t R ok) : ∃ (cs : List Value) (a : α), v = .agg cs.toArray ∧ R a cs ∧ ok a := by
  simp only [Value.okWide, ht] at hv
  obtain ⟨cs, rfl, hsz, _⟩ := hv
  obtain ⟨fuel, hf⟩ := h
  obtain ⟨l⟩ := cs
  have e1 : (Value.agg ⟨l⟩).cells.toList = l := by simp [Value.cells]
  rw [e1] at hf
  obtain ⟨a, ha, ha'⟩ := hR fuel l _ (by simpa using hsz) hf
  exact ⟨l, a, rfl, ha, ha'⟩

/-- One field of a struct (or one element of an array) of one cell. -/
theorem field_at {e : TypeId} {fs : Array Field} {n : Nat} {cs : List Value} {x : DataW H × List MemPlace} (he : P.underlying e = some (.struct fs)) (hone : oneCellFields P fs = true) (h : DataW.trod enc P w base spare held n e cs = some x) :
    ∃ m, ∀ (j : Nat) (f : Field) (v : Value), fs[j]? = some f → cs[j]? = some v → P.cellsOf f.type = 1 ∧ ∃ y, DataW.trod enc P w base spare held m f.type [v] = some y := by
  obtain ⟨ys, m, _, _, hlen, hyl, hf⟩ := DataW.trod_struct he h
  refine ⟨m, fun j f v hj hv => ?_⟩
  obtain ⟨ho, hk⟩ := hone_of hone j f hj
  have h1 := hf j f hj
  rw [ho, hk] at h1
  obtain ⟨hjc, hvj⟩ := List.getElem?_eq_some_iff.1 hv
  have hone' : (cs.drop j).take 1 = [v] := by
    rw [List.drop_eq_getElem_cons hjc, hvj]
    rfl
  rw [hone'] at h1
  have hjl : j < ys.length := by have := (Array.getElem?_eq_some_iff.1 hj).1; omega
  exact ⟨hk, ys[j], h1.trans (List.getElem?_eq_getElem hjl)⟩

theorem elem_at {e e' : TypeId} {k n : Nat} {cs : List Value} {x : DataW H × List MemPlace} (he : P.underlying e = some (.array k e')) (hone : P.cellsOf e' = 1) (h : DataW.trod enc P w base spare held n e cs = some x) :
    ∃ m, ∀ (j : Nat) (v : Value), j < k → cs[j]? = some v → ∃ y, DataW.trod enc P w base spare held m e' [v] = some y := by
  obtain ⟨ys, m, _, _, hlen, hyl, hf⟩ := DataW.trod_array he h
  refine ⟨m, fun j v hj hv => ?_⟩
  have h1 := hf j hj
  rw [hone, Nat.mul_one] at h1
  obtain ⟨hjc, hvj⟩ := List.getElem?_eq_some_iff.1 hv
  have hone' : (cs.drop j).take 1 = [v] := by
    rw [List.drop_eq_getElem_cons hjc, hvj]
    rfl
  rw [hone'] at h1
  exact ⟨ys[j]'(by omega), h1.trans (List.getElem?_eq_getElem (by omega))⟩
end
end Go.Proofs.Ytpfiecjacpbhkaa.Ho

/- What the reader reads of the structs and arrays among the laws' arguments, told in Lean. Written by a program of this session's. -/
namespace Go.Proofs.Ytpfiecjacpbhkaa.D
structure S22 where
  f0 : Int
  f1 : Int
def k22.K (_ : World) (x : S22) (cs : List Value) : Prop := cs = [.int .u8 x.f0, .int .u8 x.f1]
theorem k22_mk (w : World) (x : S22) : k22.K w x [.int .u8 x.f0, .int .u8 x.f1] := rfl
theorem k22_open {w : World} {x : S22} {cs : List Value} (h : k22.K w x cs) : cs = [.int .u8 x.f0, .int .u8 x.f1] := h
end Go.Proofs.Ytpfiecjacpbhkaa.D
namespace Go.Proofs.Ytpfiecjacpbhkaa.Ho
open Go.RowKit Go.ChangeShapes Go.WideShapes Go.Deep Go.Proofs.YtpfiecjacpbhkaaW.PrintWords
open Go.Proofs.Ytpfiecjacpbhkaa.D
set_option linter.unusedVariables false
set_option linter.unusedSimpArgs false
section
variable {H : Type} {enc : TypeId × Value → H} {w : World} {base : Nat} {spare : Nat → Bool} {held : Bool}
theorem cellsI_i64 : Try.prog.cellsOf 3 = 1 := by kernel_rfl
theorem cellsI_u16 : Try.prog.cellsOf 54 = 1 := by kernel_rfl
theorem cellsI_u8 : Try.prog.cellsOf 5 = 1 := by kernel_rfl
theorem cellsB : Try.prog.cellsOf 4 = 1 := by kernel_rfl
theorem readsI_i64 : Reads enc Try.prog w base spare held 3 (fun (a : Int) cs => (Kd.int .i64).K w a cs) (fun a => (Lit.int .i64 a).wf = true) := reads_int Try.underlying3
theorem readsI_u16 : Reads enc Try.prog w base spare held 54 (fun (a : Int) cs => (Kd.int .u16).K w a cs) (fun a => (Lit.int .u16 a).wf = true) := reads_int Try.underlying54
theorem readsI_u8 : Reads enc Try.prog w base spare held 5 (fun (a : Int) cs => (Kd.int .u8).K w a cs) (fun a => (Lit.int .u8 a).wf = true) := reads_int Try.underlying5
def ok22 (a : S22) : Prop := (Lit.int .u8 a.f0).wf = true ∧ (Lit.int .u8 a.f1).wf = true
theorem cells22 : Try.prog.cellsOf 22 = 2 := by kernel_rfl
theorem reads22 : Reads enc Try.prog w base spare held 22 (fun (a : S22) cs => k22.K w a cs) ok22 := by
  intro n cs x hl h
  rw [cells22] at hl
  obtain ⟨m, hm⟩ := elem_at Try.underlying22 (by kernel_rfl) h
  match cs, hl with
  | [v0, v1], _ =>
    obtain ⟨y0, h0⟩ := hm 0 v0 (by omega) rfl
    obtain ⟨b0, e0, w0⟩ := reads_int Try.underlying5 m [v0] y0 cellsI_u8.symm h0
    cases e0
    obtain ⟨y1, h1⟩ := hm 1 v1 (by omega) rfl
    obtain ⟨b1, e1, w1⟩ := reads_int Try.underlying5 m [v1] y1 cellsI_u8.symm h1
    cases e1
    exact ⟨⟨b0, b1⟩, k22_mk w _, w0, w1⟩
def ok47 (a : S47) : Prop := (Lit.int .i64 a.f0).wf = true ∧ (Lit.int .i64 a.f1).wf = true ∧ (Lit.int .i64 a.f2).wf = true ∧ (Lit.int .i64 a.f3).wf = true
theorem cells47 : Try.prog.cellsOf 47 = 4 := by kernel_rfl
theorem reads47 : Reads enc Try.prog w base spare held 47 (fun (a : S47) cs => k47.K w a cs) ok47 := by
  intro n cs x hl h
  rw [cells47] at hl
  obtain ⟨m, hm⟩ := field_at Try.underlying47 (by kernel_rfl) h
  match cs, hl with
  | [v0, v1, v2, v3], _ =>
    obtain ⟨_, y0, h0⟩ := hm 0 _ v0 rfl rfl
    obtain ⟨b0, e0, w0⟩ := reads_int Try.underlying3 m [v0] y0 cellsI_i64.symm h0
    cases e0
    obtain ⟨_, y1, h1⟩ := hm 1 _ v1 rfl rfl
    obtain ⟨b1, e1, w1⟩ := reads_int Try.underlying3 m [v1] y1 cellsI_i64.symm h1
    cases e1
    obtain ⟨_, y2, h2⟩ := hm 2 _ v2 rfl rfl
    obtain ⟨b2, e2, w2⟩ := reads_int Try.underlying3 m [v2] y2 cellsI_i64.symm h2
    cases e2
    obtain ⟨_, y3, h3⟩ := hm 3 _ v3 rfl rfl
    obtain ⟨b3, e3, w3⟩ := reads_int Try.underlying3 m [v3] y3 cellsI_i64.symm h3
    cases e3
    exact ⟨⟨b0, b1, b2, b3⟩, k47_mk w _, w0, w1, w2, w3⟩
def ok50 (a : S50) : Prop := (Lit.int .i64 a.f0).wf = true ∧ (Lit.int .i64 a.f1).wf = true ∧ (Lit.int .i64 a.f2).wf = true ∧ (Lit.int .i64 a.f3).wf = true
theorem cells50 : Try.prog.cellsOf 50 = 5 := by kernel_rfl
theorem reads50 : Reads enc Try.prog w base spare held 50 (fun (a : S50) cs => k50.K w a cs) ok50 := by
  intro n cs x hl h
  rw [cells50] at hl
  obtain ⟨m, hm⟩ := field_at Try.underlying50 (by kernel_rfl) h
  match cs, hl with
  | [v0, v1, v2, v3, v4], _ =>
    obtain ⟨_, y0, h0⟩ := hm 0 _ v0 rfl rfl
    obtain ⟨b0, e0, w0⟩ := reads_int Try.underlying3 m [v0] y0 cellsI_i64.symm h0
    cases e0
    obtain ⟨_, y1, h1⟩ := hm 1 _ v1 rfl rfl
    obtain ⟨b1, e1, w1⟩ := reads_int Try.underlying3 m [v1] y1 cellsI_i64.symm h1
    cases e1
    obtain ⟨_, y2, h2⟩ := hm 2 _ v2 rfl rfl
    obtain ⟨b2, e2, w2⟩ := reads_int Try.underlying3 m [v2] y2 cellsI_i64.symm h2
    cases e2
    obtain ⟨_, y3, h3⟩ := hm 3 _ v3 rfl rfl
    obtain ⟨b3, e3, w3⟩ := reads_int Try.underlying3 m [v3] y3 cellsI_i64.symm h3
    cases e3
    obtain ⟨_, y4, h4⟩ := hm 4 _ v4 rfl rfl
    obtain ⟨b4, e4, w4⟩ := reads_bool Try.underlying4 m [v4] y4 cellsB.symm h4
    cases e4
    exact ⟨⟨b0, b1, b2, b3, b4⟩, k50_mk w _, w0, w1, w2, w3⟩
def ok83 (a : S83) : Prop := (Lit.int .u8 a.f0).wf = true ∧ (Lit.int .u8 a.f1).wf = true ∧ (Lit.int .u8 a.f2).wf = true ∧ (Lit.int .u8 a.f3).wf = true
theorem cells83 : Try.prog.cellsOf 83 = 4 := by kernel_rfl
theorem reads83 : Reads enc Try.prog w base spare held 83 (fun (a : S83) cs => k83.K w a cs) ok83 := by
  intro n cs x hl h
  rw [cells83] at hl
  obtain ⟨m, hm⟩ := elem_at Try.underlying83 (by kernel_rfl) h
  match cs, hl with
  | [v0, v1, v2, v3], _ =>
    obtain ⟨y0, h0⟩ := hm 0 v0 (by omega) rfl
    obtain ⟨b0, e0, w0⟩ := reads_int Try.underlying5 m [v0] y0 cellsI_u8.symm h0
    cases e0
    obtain ⟨y1, h1⟩ := hm 1 v1 (by omega) rfl
    obtain ⟨b1, e1, w1⟩ := reads_int Try.underlying5 m [v1] y1 cellsI_u8.symm h1
    cases e1
    obtain ⟨y2, h2⟩ := hm 2 v2 (by omega) rfl
    obtain ⟨b2, e2, w2⟩ := reads_int Try.underlying5 m [v2] y2 cellsI_u8.symm h2
    cases e2
    obtain ⟨y3, h3⟩ := hm 3 v3 (by omega) rfl
    obtain ⟨b3, e3, w3⟩ := reads_int Try.underlying5 m [v3] y3 cellsI_u8.symm h3
    cases e3
    exact ⟨⟨b0, b1, b2, b3⟩, k83_mk w _, w0, w1, w2, w3⟩
end
end Go.Proofs.Ytpfiecjacpbhkaa.Ho

/- Terms and dockets among the laws' arguments, opened: structs that hold slices. -/
namespace Go.Proofs.Ytpfiecjacpbhkaa.Ho
open Go.RowKit Go.ChangeShapes Go.WideShapes Go.Deep Go.Proofs.YtpfiecjacpbhkaaW.PrintWords
open Go.Proofs.Ytpfiecjacpbhkaa.D
set_option linter.unusedVariables false
set_option linter.unusedSimpArgs false
section
variable {H : Type} {enc : TypeId × Value → H} {w : World} {base : Nat} {spare : Nat → Bool} {held : Bool}

theorem reads_slice {P : Program} {α : Type} {t e : TypeId} {R : α → List Value → Prop} {ok : α → Prop} (ht : P.underlying t = some (.slice e)) (hR : Reads enc P w base spare held e R ok) :
    Reads enc P w base spare held t (fun (l : List α) cs => ∃ A c, cs = [.slice A l.length c] ∧ l.length ≤ c ∧ ReadsRow R (P.cellsOf e) w A l.length l) (fun l => l.length ≤ maxLen ∧ ∀ x ∈ l, ok x) := by
  intro n cs x _ hf
  rcases open_slice ht hf with ⟨hcs, _⟩ | ⟨a, len', cap', m, n, D, Pl, hcs, _, hl, hm, hmm, _, hi⟩
  · subst hcs
    exact ⟨[], ⟨none, 0, rfl, Nat.zero_le _, ⟨rfl, Nat.zero_le _, fun h => absurd h (Nat.lt_irrefl 0)⟩⟩, Nat.zero_le _, fun x hx => by cases hx⟩
  · subst hcs
    have hlm : len' ≤ m := by rw [hmm]; split <;> omega
    obtain ⟨l, rfl, hr, hok⟩ := rows_of (R := R) (w := w) (A := some a) (size := P.cellsOf e) ok (n := len') (by omega) (fun _ => ⟨a, rfl, fun i hi' => by
      obtain ⟨cs', hc, ht'⟩ := hi i (by omega)
      obtain ⟨_, hcl, hat⟩ := World.cells?_some hc
      obtain ⟨x, hx, hx'⟩ := hR n cs' _ hcl ht'
      refine ⟨x, cs', hcl, hx, hx', fun j u hu => ?_⟩
      have hj : j < cs'.length := (List.getElem?_eq_some_iff.1 hu).1
      rw [← Go.Deep.add_add, hat j (by omega), hu]⟩)
    exact ⟨l, ⟨some a, cap', rfl, hl, hr⟩, by omega, hok⟩

structure Trm where
  x : Int
  y : Int
  l : List Int
def okT (a : Trm) : Prop := (Lit.int .i64 a.x).wf = true ∧ (Lit.int .i64 a.y).wf = true ∧ a.l.length ≤ maxLen ∧ ∀ x ∈ a.l, (Lit.int .i64 x).wf = true
def rdT (w : World) (a : Trm) (cs : List Value) : Prop := ∃ A c, cs = [.int .i64 a.x, .int .i64 a.y, .slice A a.l.length c] ∧ a.l.length ≤ c ∧ Kd.C (Kd.int .i64) w A a.l.length a.l
theorem cellsT : Try.prog.cellsOf 27 = 3 := by kernel_rfl
theorem cellsL : Try.prog.cellsOf 25 = 1 := by kernel_rfl
theorem cellsM : Try.prog.cellsOf 28 = 1 := by kernel_rfl
theorem cellsD : Try.prog.cellsOf 30 = 5 := by kernel_rfl
set_option maxRecDepth 100000 in
theorem readsT : Reads enc Try.prog w base spare held 27 (rdT w) okT := by
  intro n cs x hl h
  rw [cellsT] at hl
  obtain ⟨m, hm⟩ := field_at Try.underlying27 (by kernel_rfl) h
  match cs, hl with
  | [v0, v1, v2], _ =>
    obtain ⟨_, y0, h0⟩ := hm 0 _ v0 rfl rfl
    obtain ⟨b0, e0, w0⟩ := reads_int Try.underlying3 m [v0] y0 cellsI_i64.symm h0
    cases e0
    obtain ⟨_, y1, h1⟩ := hm 1 _ v1 rfl rfl
    obtain ⟨b1, e1, w1⟩ := reads_int Try.underlying3 m [v1] y1 cellsI_i64.symm h1
    cases e1
    obtain ⟨_, y2, h2⟩ := hm 2 _ v2 rfl rfl
    obtain ⟨b2, ⟨A, c, e2, hc, hr⟩, w2⟩ := reads_slice Try.underlying25 readsI_i64 m [v2] y2 cellsL.symm h2
    cases e2
    have hr2 : ReadsRow ((Kd.int .i64).K w) 1 w A b2.length b2 := by rw [cellsI_i64] at hr; exact hr
    exact ⟨⟨b0, b1, b2⟩, ⟨A, c, rfl, hc, hr2⟩, w0, w1, w2⟩
set_option maxRecDepth 100000 in
theorem open_terms {v : Value} {d : DataW H} {p : List MemPlace} {r : Reach} {b0 : Nat} (hv : Value.okWide Try.prog w r b0 27 v) (h : DataW.Trod enc Try.prog w base spare held 27 v d p) :
    ∃ (x y : Int) (A : Option Addr) (l : List Int) (c : Nat), v = .agg #[.int .i64 x, .int .i64 y, .slice A l.length c] ∧ l.length ≤ c ∧ Kd.C (Kd.int .i64) w A l.length l ∧ (Lit.int .i64 x).wf = true ∧ (Lit.int .i64 y).wf = true ∧ l.length ≤ maxLen ∧ ∀ x ∈ l, (Lit.int .i64 x).wf = true := by
  obtain ⟨cs, a, rfl, hR, hk⟩ := open_struct (R := rdT w) (ok := okT) Try.underlying27 hv h readsT
  unfold rdT at hR
  unfold okT at hk
  obtain ⟨A, c, rfl, hc, hr⟩ := hR
  obtain ⟨h1, h2, h3, h4⟩ := hk
  exact ⟨_, _, A, _, c, rfl, hc, hr, h1, h2, h3, h4⟩
end
end Go.Proofs.Ytpfiecjacpbhkaa.Ho

/- The pure statement of DocketNew. Written by a program of this session's. -/
namespace Go.Proofs.Ytpfiecjacpbhkaa.D
open Go.RowKit
def insolvencylaw33_DocketNew.Pure : Prop := ∀ (a0 : Int) (x1 : Int) (y1 : Int) (l1 : List Int) (a2 : Int) (a3 : Int) (a4 : Int), (Lit.int .i64 a0).wf = true → (Lit.int .i64 x1).wf = true → (Lit.int .i64 y1).wf = true → l1.length ≤ maxLen → (∀ x ∈ l1, (Lit.int .i64 x).wf = true) → (Lit.int .u8 a2).wf = true → (Lit.int .u8 a3).wf = true → (Lit.int .u16 a4).wf = true → ∃ k, insolvencylaw33_DocketNew.f k a0 x1 y1 l1 a2 a3 a4 = some true
end Go.Proofs.Ytpfiecjacpbhkaa.D

/- What the Go functions named below come to, each told as_ a Lean function ('.f'), with the proof ('.calls'): no condition beyond those that each theorem states. Written by a program of this session's over the translation. -/
namespace Go.Proofs.Ytpfiecjacpbhkaa.F
open Go.RowKit Go.Proofs.YtpfiecjacpbhkaaW.PrintWords Go.Proofs.YtpfiecjacpbhkaaW.PrintLast Go.Proofs.YtpfiecjacpbhkaaW.PrintMore
attribute [local go_sem] max2_int min2_int max_two min_two max_three min_three max_four min_four   -- for this text's walks alone
set_option linter.unusedVariables false
set_option linter.unusedSimpArgs false

/-! ### insolvencyref1_AddDays: function 61 -/
mutual
def insolvencyref1_AddDays.j0 : Nat → Int → Int → List Int → Bool → Option (Int × Int)
  | 0, _, _, _, _ => none
  | k + 1, x0, x1, x2, x22 => if x22 = true then (some (0, 1)) else (if x1 > 0 then (insolvencyref1_AddDays.j1 k x1 x2 (wrap64 (x0 + 1))) else (insolvencyref1_AddDays.j1 k x1 x2 x0))
def insolvencyref1_AddDays.j1 : Nat → Int → List Int → Int → Option (Int × Int)
  | 0, _, _, _ => none
  | k + 1, x1, x2, x8 => insolvencyref1_AddDays.l0 k x1 x2 x8
def insolvencyref1_AddDays.l0 : Nat → Int → List Int → Int → Option (Int × Int)
  | 0, _, _, _ => none
  | k + 1, x1, x2, x8 => if x8 ≤ 1048576 then ((insolvencyref1_IsBusiness.f k x8 x2).bind fun t126 => (if t126 = true then (if x1 ≤ 1 then (some (x8, 0)) else (insolvencyref1_AddDays.l0 k (wrap64 (x1 - 1)) x2 (wrap64 (x8 + 1)))) else (insolvencyref1_AddDays.l0 k x1 x2 (wrap64 (x8 + 1))))) else (some (0, 1))
end
def insolvencyref1_AddDays.f (k : Nat) (a0 : Int) (a1 : Int) (l2 : List Int) : Option (Int × Int) := if (l2.length : Int) > 1000 then (some (0, 2)) else ((insolvencyref1_IsDay.f a0).bind fun t125 => (if t125 = true then (if a1 < 0 then (insolvencyref1_AddDays.j0 k a0 a1 l2 true) else (insolvencyref1_AddDays.j0 k a0 a1 l2 (decide (a1 > 1048576)))) else (insolvencyref1_AddDays.j0 k a0 a1 l2 true)))
theorem insolvencyref1_AddDays.mono_l : ∀ k, (∀ y0 y1 y2 y3, LeO (insolvencyref1_AddDays.j0 k y0 y1 y2 y3) (insolvencyref1_AddDays.j0 (k + 1) y0 y1 y2 y3)) ∧ (∀ y0 y1 y2, LeO (insolvencyref1_AddDays.j1 k y0 y1 y2) (insolvencyref1_AddDays.j1 (k + 1) y0 y1 y2)) ∧ (∀ y0 y1 y2, LeO (insolvencyref1_AddDays.l0 k y0 y1 y2) (insolvencyref1_AddDays.l0 (k + 1) y0 y1 y2))
  | 0 => ⟨fun _ _ _ _ r h => by simp [insolvencyref1_AddDays.j0] at h, fun _ _ _ r h => by simp [insolvencyref1_AddDays.j1] at h, fun _ _ _ r h => by simp [insolvencyref1_AddDays.l0] at h⟩
  | k + 1 => by
    obtain ⟨ih0, ih1, ih2⟩ := insolvencyref1_AddDays.mono_l k
    refine ⟨?_, ?_, ?_⟩
    · intro y0 y1 y2 y3
      unfold insolvencyref1_AddDays.j0
      repeat' first
      | (with_reducible exact ih0 _ _ _ _)
      | (with_reducible exact ih1 _ _ _)
      | (with_reducible exact ih2 _ _ _)
      | (with_reducible exact insolvencyref1_IsBusiness.mono _ _ _)
      | (with_reducible exact LeO.refl _)
      | (with_reducible exact LeO.none _)
      | (with_reducible refine LeO.ite ?_ ?_)
      | (with_reducible refine LeO.bind ?_ (fun _ => ?_))
      | exact ih0 _ _ _ _
      | exact ih1 _ _ _
      | exact ih2 _ _ _
      | exact insolvencyref1_IsBusiness.mono _ _ _
      | exact LeO.none _
      | refine LeO.ite ?_ ?_
      | refine LeO.bind ?_ (fun _ => ?_)
    · intro y0 y1 y2
      unfold insolvencyref1_AddDays.j1
      repeat' first
      | (with_reducible exact ih0 _ _ _ _)
      | (with_reducible exact ih1 _ _ _)
      | (with_reducible exact ih2 _ _ _)
      | (with_reducible exact insolvencyref1_IsBusiness.mono _ _ _)
      | (with_reducible exact LeO.refl _)
      | (with_reducible exact LeO.none _)
      | (with_reducible refine LeO.ite ?_ ?_)
      | (with_reducible refine LeO.bind ?_ (fun _ => ?_))
      | exact ih0 _ _ _ _
      | exact ih1 _ _ _
      | exact ih2 _ _ _
      | exact insolvencyref1_IsBusiness.mono _ _ _
      | exact LeO.none _
      | refine LeO.ite ?_ ?_
      | refine LeO.bind ?_ (fun _ => ?_)
    · intro y0 y1 y2
      unfold insolvencyref1_AddDays.l0
      repeat' first
      | (with_reducible exact ih0 _ _ _ _)
      | (with_reducible exact ih1 _ _ _)
      | (with_reducible exact ih2 _ _ _)
      | (with_reducible exact insolvencyref1_IsBusiness.mono _ _ _)
      | (with_reducible exact LeO.refl _)
      | (with_reducible exact LeO.none _)
      | (with_reducible refine LeO.ite ?_ ?_)
      | (with_reducible refine LeO.bind ?_ (fun _ => ?_))
      | exact ih0 _ _ _ _
      | exact ih1 _ _ _
      | exact ih2 _ _ _
      | exact insolvencyref1_IsBusiness.mono _ _ _
      | exact LeO.none _
      | refine LeO.ite ?_ ?_
      | refine LeO.bind ?_ (fun _ => ?_)
theorem insolvencyref1_AddDays.mono : ∀ a0 a1 a2 k, LeO (insolvencyref1_AddDays.f k a0 a1 a2) (insolvencyref1_AddDays.f (k + 1) a0 a1 a2) := by
  intro a0 a1 a2 k
  obtain ⟨ih0, ih1, ih2⟩ := insolvencyref1_AddDays.mono_l k
  unfold insolvencyref1_AddDays.f
  repeat' first
      | (with_reducible exact ih0 _ _ _ _)
      | (with_reducible exact ih1 _ _ _)
      | (with_reducible exact ih2 _ _ _)
      | (with_reducible exact insolvencyref1_IsBusiness.mono _ _ _)
      | (with_reducible exact LeO.refl _)
      | (with_reducible exact LeO.none _)
      | (with_reducible refine LeO.ite ?_ ?_)
      | (with_reducible refine LeO.bind ?_ (fun _ => ?_))
      | exact ih0 _ _ _ _
      | exact ih1 _ _ _
      | exact ih2 _ _ _
      | exact insolvencyref1_IsBusiness.mono _ _ _
      | exact LeO.none _
      | refine LeO.ite ?_ ?_
      | refine LeO.bind ?_ (fun _ => ?_)
set_option maxHeartbeats 8000000 in
set_option maxRecDepth 100000 in
theorem insolvencyref1_AddDays.calls (k : Nat) (a0 : Int) (a1 : Int) (A2 : Option Addr) (c2 : Nat) (l2 : List Int) (r1 : Int) (r2 : Int) (w : World) (hr2 : Kd.C (Kd.int .i64) w A2 l2.length l2) (hc2 : l2.length ≤ c2) (h : insolvencyref1_AddDays.f k a0 a1 l2 = some (r1, r2)) :
    Calls Try.prog 61 #[.int .i64 a0, .int .i64 a1, .slice A2 l2.length c2] w fun e w' => e = .returned (.tuple #[.int .i64 r1, .int .i64 r2]) ∧ Drawn0 w w' := by
  have HR2 := Aside0.mk hr2
  have HC2 := Aside0.mk hc2
  clear hr2 hc2
  have H : (if (l2.length : Int) > 1000 then (some (0, 2)) else ((insolvencyref1_IsDay.f a0).bind fun t125 => (if t125 = true then (if a1 < 0 then (insolvencyref1_AddDays.j0 k a0 a1 l2 true) else (insolvencyref1_AddDays.j0 k a0 a1 l2 (decide (a1 > 1048576)))) else (insolvencyref1_AddDays.j0 k a0 a1 l2 true)))) = some (r1, r2) := h
  clear h
  by_cases c4 : (l2.length : Int) > 1000
  · rw [if_pos c4] at H
    have c4b0 : decide (1000 < (l2.length : Int)) = true := decide_eq_true c4
    have c4b1 : decide (1000 < l2.length) = true := decide_eq_true (by omega)
    clear c4
    simp only [Option.some.injEq, Prod.mk.injEq] at H
    obtain ⟨rfl, rfl⟩ := H
    go_enter Try.func61, Try.ntmps61
    go_wp2
    go_ret2
    exact ⟨by first | rfl | (simp; done) | (simp [*]; done), by repeat (first | exact Drawn0.refl _ | apply Drawn0.step)⟩
  · rw [if_neg c4] at H
    have c4b0 : decide (1000 < (l2.length : Int)) = false := decide_eq_false c4
    have c4b1 : decide (1000 < l2.length) = false := decide_eq_false (by omega)
    clear c4
    have HC5 := Aside0.mk H
    clear H
    go_enter Try.func61, Try.ntmps61
    go_upto_region 3 with (fail)
    go_cut [22] (fun v22 wc => ∃ (kq : Nat) (x22_4 : Bool), v22 = .bool x22_4 ∧ Aside0 (insolvencyref1_AddDays.j0 kq a0 a1 l2 x22_4 = some (r1, r2)) ∧ Aside0 (kq ≤ k) ∧ Drawn0 w wc)
    case first =>
      have H := HC5.out
      clear HC5
      replace H := Option.bind_eq_some_iff.mp H
      obtain ⟨t125, A60, H⟩ := H
      replace H : (if t125 = true then (if a1 < 0 then (insolvencyref1_AddDays.j0 k a0 a1 l2 true) else (insolvencyref1_AddDays.j0 k a0 a1 l2 (decide (a1 > 1048576)))) else (insolvencyref1_AddDays.j0 k a0 a1 l2 true)) = some (r1, r2) := H
      have A6 := Aside0.mk A60
      clear A60
      by_cases c7 : t125 = true
      · subst c7
        have H1 : (if a1 < 0 then (insolvencyref1_AddDays.j0 k a0 a1 l2 true) else (insolvencyref1_AddDays.j0 k a0 a1 l2 (decide (a1 > 1048576)))) = some (r1, r2) := by rw [if_pos rfl] at H; exact H
        clear H
        have H := H1
        clear H1
        by_cases c8 : a1 < 0
        · rw [if_pos c8] at H
          have c8b0 : decide (a1 < 0) = true := decide_eq_true c8
          clear c8
          (first | rw [c8b0] | (simp only [i64_w, i32_w]; rw [c8b0]) | skip)
          have H' := Aside0.mk H
          clear H
          go_wp2_with (first | ((with_reducible refine gate_callee (f := 69) rfl ?_); refine goesL_ (some 13) rfl rfl Try.func69 (by kernel_rfl) rfl #[.int .i64 a0] rfl (by (try simp only [List.map_toArray, List.map_cons, List.map_nil]); first | done | rfl | (simp only [List.length_drop, List.length_take]; rfl)) ?_; (with_reducible refine (insolvencyref1_IsDay.calls a0 true _ A6.out).mono ?_); rintro e w' ⟨rfl, ⟨nd, rfl⟩⟩; refine ⟨_, rfl, ?_⟩))
          go_meet
          case rel => exact ⟨_, (true), (by first | rfl | (simp; done) | (simp [*]; done)), H', ⟨by first | omega | exact Nat.le_refl _⟩, by repeat (first | exact Drawn0.refl _ | apply Drawn0.step)⟩
        · rw [if_neg c8] at H
          have c8b0 : decide (a1 < 0) = false := decide_eq_false c8
          clear c8
          (first | rw [c8b0] | (simp only [i64_w, i32_w]; rw [c8b0]) | skip)
          have H' := Aside0.mk H
          clear H
          go_wp2_with (first | ((with_reducible refine gate_callee (f := 69) rfl ?_); refine goesL_ (some 13) rfl rfl Try.func69 (by kernel_rfl) rfl #[.int .i64 a0] rfl (by (try simp only [List.map_toArray, List.map_cons, List.map_nil]); first | done | rfl | (simp only [List.length_drop, List.length_take]; rfl)) ?_; (with_reducible refine (insolvencyref1_IsDay.calls a0 true _ A6.out).mono ?_); rintro e w' ⟨rfl, ⟨nd, rfl⟩⟩; refine ⟨_, rfl, ?_⟩))
          go_meet
          case rel => exact ⟨_, (decide (a1 > 1048576)), (by first | rfl | (simp; done) | (simp [*]; done)), H', ⟨by first | omega | exact Nat.le_refl _⟩, by repeat (first | exact Drawn0.refl _ | apply Drawn0.step)⟩
      · replace c7 := Bool.eq_false_iff.mpr c7
        subst c7
        have H1 : (insolvencyref1_AddDays.j0 k a0 a1 l2 true) = some (r1, r2) := by rw [if_neg (show ¬ (false = true) by decide)] at H; exact H
        clear H
        have H := H1
        clear H1
        have H' := Aside0.mk H
        clear H
        go_wp2_with (first | ((with_reducible refine gate_callee (f := 69) rfl ?_); refine goesL_ (some 13) rfl rfl Try.func69 (by kernel_rfl) rfl #[.int .i64 a0] rfl (by (try simp only [List.map_toArray, List.map_cons, List.map_nil]); first | done | rfl | (simp only [List.length_drop, List.length_take]; rfl)) ?_; (with_reducible refine (insolvencyref1_IsDay.calls a0 false _ A6.out).mono ?_); rintro e w' ⟨rfl, ⟨nd, rfl⟩⟩; refine ⟨_, rfl, ?_⟩))
        go_meet
        case rel => exact ⟨_, (true), (by first | rfl | (simp; done) | (simp [*]; done)), H', ⟨by first | omega | exact Nat.le_refl _⟩, by repeat (first | exact Drawn0.refl _ | apply Drawn0.step)⟩
    case rest =>
      clear HC5
      try clear c2
      try clear p2
      try clear c4
      try clear c4b0
      try clear c4b1
      try clear c6
      try clear c7
      try clear c8
      try clear c8b0
      obtain ⟨kq, x22_4, rfl, HA, HJ4, ⟨mc4, rfl⟩⟩ := hcut
      cases kq with
      | zero => exact absurd HA.out (by simp [insolvencyref1_AddDays.j0])
      | succ kj4 =>
        have H := HA.out
        clear HA
        simp only [insolvencyref1_AddDays.j0] at H
        by_cases c9 : x22_4 = true
        · subst c9
          have H1 : (some (0, 1)) = some (r1, r2) := by rw [if_pos rfl] at H; exact H
          clear H
          have H := H1
          clear H1
          simp only [Option.some.injEq, Prod.mk.injEq] at H
          obtain ⟨rfl, rfl⟩ := H
          go_wp2
          go_ret2
          exact ⟨by first | rfl | (simp; done) | (simp [*]; done), by repeat (first | exact Drawn0.refl _ | apply Drawn0.step)⟩
        · replace c9 := Bool.eq_false_iff.mpr c9
          subst c9
          have H1 : (if a1 > 0 then (insolvencyref1_AddDays.j1 kj4 a1 l2 (wrap64 (a0 + 1))) else (insolvencyref1_AddDays.j1 kj4 a1 l2 a0)) = some (r1, r2) := by rw [if_neg (show ¬ (false = true) by decide)] at H; exact H
          clear H
          have H := H1
          clear H1
          have HC10 := Aside0.mk H
          clear H
          go_upto_if 25 with (fail)
          go_cut [8] (fun v8 wc => ∃ (kq : Nat) (x8_9 : Int), v8 = .int .i64 x8_9 ∧ Aside0 (insolvencyref1_AddDays.j1 kq a1 l2 x8_9 = some (r1, r2)) ∧ Aside0 (kq ≤ kj4) ∧ Drawn0 w wc)
          case first =>
            have H := HC10.out
            clear HC10
            by_cases c11 : a1 > 0
            · rw [if_pos c11] at H
              have c11b0 : decide (0 < a1) = true := decide_eq_true c11
              clear c11
              (first | rw [c11b0] | (simp only [i64_w, i32_w]; rw [c11b0]) | skip)
              have H' := Aside0.mk H
              clear H
              go_wp2
              go_meet
              case rel => exact ⟨_, (wrap64 (a0 + 1)), (by first | rfl | (simp; done) | (simp [*]; done)), H', ⟨by have := HJ4.out; first | omega | exact Nat.le_refl _⟩, by repeat (first | exact Drawn0.refl _ | apply Drawn0.step)⟩
            · rw [if_neg c11] at H
              have c11b0 : decide (0 < a1) = false := decide_eq_false c11
              clear c11
              (first | rw [c11b0] | (simp only [i64_w, i32_w]; rw [c11b0]) | skip)
              have H' := Aside0.mk H
              clear H
              go_wp2
              go_meet
              case rel => exact ⟨_, (a0), (by first | rfl | (simp; done) | (simp [*]; done)), H', ⟨by have := HJ4.out; first | omega | exact Nat.le_refl _⟩, by repeat (first | exact Drawn0.refl _ | apply Drawn0.step)⟩
          case rest =>
            clear HC10
            try clear c1
            try clear c2
            try clear p2
            try clear c4
            try clear c4b0
            try clear c4b1
            try clear c6
            try clear p6
            try clear c7
            try clear c8
            try clear c8b0
            try clear c9
            try clear c11
            try clear c11b0
            try clear p2
            obtain ⟨kq, x8_9, rfl, HA, HJ9, ⟨mc9, rfl⟩⟩ := hcut
            cases kq with
            | zero => exact absurd HA.out (by simp [insolvencyref1_AddDays.j1])
            | succ kj9 =>
              have H := HA.out
              clear HA
              simp only [insolvencyref1_AddDays.j1] at H
              have H' := Aside0.mk H
              clear H
              go_wp2
              go_loopg [1, 8] kj9 (fun kq v1 v8 w' => ∃ (x1_3 : Int) (x8_3 : Int), v1 = .int .i64 x1_3 ∧ v8 = .int .i64 x8_3 ∧ Aside0 (insolvencyref1_AddDays.l0 kq x1_3 l2 x8_3 = some (r1, r2)) ∧ Aside0 (kq ≤ kj9) ∧ Drawn0 w w')
              case atStart => exact ⟨(a1), (x8_9), (by first | rfl | (simp; done) | (simp [*]; done)), (by first | rfl | (simp; done) | (simp [*]; done)), H', ⟨Nat.le_refl _⟩, by repeat (first | exact Drawn0.refl _ | apply Drawn0.step)⟩
              case round =>
                clear H'
                try clear c1
                try clear c2
                try clear p2
                try clear c4
                try clear c4b0
                try clear c4b1
                try clear c6
                try clear p6
                try clear c7
                try clear c8
                try clear c8b0
                try clear c9
                try clear c11
                try clear c11b0
                try clear p2
                try clear p6
                obtain ⟨x1_3, x8_3, rfl, rfl, HA, HK3, ⟨m3, rfl⟩⟩ := hrel
                cases gk with
                | zero => exact absurd HA.out (by simp [insolvencyref1_AddDays.l0])
                | succ k3 =>
                  have H := HA.out
                  clear HA
                  simp only [insolvencyref1_AddDays.l0] at H
                  by_cases c12 : x8_3 ≤ 1048576
                  · rw [if_pos c12] at H
                    have c12b0 : decide (x8_3 ≤ 1048576) = true := decide_eq_true c12
                    clear c12
                    replace H := Option.bind_eq_some_iff.mp H
                    obtain ⟨t126, A130, H⟩ := H
                    replace H : (if t126 = true then (if x1_3 ≤ 1 then (some (x8_3, 0)) else (insolvencyref1_AddDays.l0 k3 (wrap64 (x1_3 - 1)) l2 (wrap64 (x8_3 + 1)))) else (insolvencyref1_AddDays.l0 k3 x1_3 l2 (wrap64 (x8_3 + 1)))) = some (r1, r2) := H
                    have A13 := Aside0.mk A130
                    clear A130
                    by_cases c14 : t126 = true
                    · subst c14
                      have H1 : (if x1_3 ≤ 1 then (some (x8_3, 0)) else (insolvencyref1_AddDays.l0 k3 (wrap64 (x1_3 - 1)) l2 (wrap64 (x8_3 + 1)))) = some (r1, r2) := by rw [if_pos rfl] at H; exact H
                      clear H
                      have H := H1
                      clear H1
                      by_cases c15 : x1_3 ≤ 1
                      · rw [if_pos c15] at H
                        have c15b0 : decide (x1_3 ≤ 1) = true := decide_eq_true c15
                        clear c15
                        simp only [Option.some.injEq, Prod.mk.injEq] at H
                        obtain ⟨rfl, rfl⟩ := H
                        go_wp2_with (first | ((with_reducible refine gate_callee (f := 70) rfl ?_); refine goesL_ (some 34) rfl rfl Try.func70 (by kernel_rfl) rfl #[.int .i64 x8_3, .slice A2 l2.length c2] rfl (by (try simp only [List.map_toArray, List.map_cons, List.map_nil]); first | done | rfl | (simp only [List.length_drop, List.length_take]; rfl)) ?_; (with_reducible refine (insolvencyref1_IsBusiness.calls k3 x8_3 _ _ l2 true _ ?side1 ?side2 A13.out).mono ?_); (case side1 => repeat (first | exact HR2.out | (with_reducible refine Kd.C_alloc ?_ _) | (with_reducible refine Kd.C_drewN ?_ _) | (with_reducible refine Kd.C_drew ?_))); (case side2 => exact HC2.out); rintro e w' ⟨rfl, ⟨nd, rfl⟩⟩; refine ⟨_, rfl, ?_⟩))
                        go_ret2
                        exact ⟨by first | rfl | (simp; done) | (simp [*]; done), by repeat (first | exact Drawn0.refl _ | apply Drawn0.step)⟩
                      · rw [if_neg c15] at H
                        have c15b0 : decide (x1_3 ≤ 1) = false := decide_eq_false c15
                        clear c15
                        have H' := Aside0.mk H
                        clear H
                        go_wp2_with (first | ((with_reducible refine gate_callee (f := 70) rfl ?_); refine goesL_ (some 34) rfl rfl Try.func70 (by kernel_rfl) rfl #[.int .i64 x8_3, .slice A2 l2.length c2] rfl (by (try simp only [List.map_toArray, List.map_cons, List.map_nil]); first | done | rfl | (simp only [List.length_drop, List.length_take]; rfl)) ?_; (with_reducible refine (insolvencyref1_IsBusiness.calls k3 x8_3 _ _ l2 true _ ?side1 ?side2 A13.out).mono ?_); (case side1 => repeat (first | exact HR2.out | (with_reducible refine Kd.C_alloc ?_ _) | (with_reducible refine Kd.C_drewN ?_ _) | (with_reducible refine Kd.C_drew ?_))); (case side2 => exact HC2.out); rintro e w' ⟨rfl, ⟨nd, rfl⟩⟩; refine ⟨_, rfl, ?_⟩))
                        go_roundg k3
                        case measure => have := HJ4.out; have := HJ9.out; have := HK3.out; omega
                        case rel => exact ⟨(wrap64 (x1_3 - 1)), (wrap64 (x8_3 + 1)), (by first | rfl | (simp; done) | (simp [*]; done)), (by first | rfl | (simp; done) | (simp [*]; done)), H', ⟨by have := HJ4.out; have := HJ9.out; have := HK3.out; omega⟩, by repeat (first | exact Drawn0.refl _ | apply Drawn0.step)⟩
                    · replace c14 := Bool.eq_false_iff.mpr c14
                      subst c14
                      have H1 : (insolvencyref1_AddDays.l0 k3 x1_3 l2 (wrap64 (x8_3 + 1))) = some (r1, r2) := by rw [if_neg (show ¬ (false = true) by decide)] at H; exact H
                      clear H
                      have H := H1
                      clear H1
                      have H' := Aside0.mk H
                      clear H
                      go_wp2_with (first | ((with_reducible refine gate_callee (f := 70) rfl ?_); refine goesL_ (some 34) rfl rfl Try.func70 (by kernel_rfl) rfl #[.int .i64 x8_3, .slice A2 l2.length c2] rfl (by (try simp only [List.map_toArray, List.map_cons, List.map_nil]); first | done | rfl | (simp only [List.length_drop, List.length_take]; rfl)) ?_; (with_reducible refine (insolvencyref1_IsBusiness.calls k3 x8_3 _ _ l2 false _ ?side1 ?side2 A13.out).mono ?_); (case side1 => repeat (first | exact HR2.out | (with_reducible refine Kd.C_alloc ?_ _) | (with_reducible refine Kd.C_drewN ?_ _) | (with_reducible refine Kd.C_drew ?_))); (case side2 => exact HC2.out); rintro e w' ⟨rfl, ⟨nd, rfl⟩⟩; refine ⟨_, rfl, ?_⟩))
                      go_roundg k3
                      case measure => have := HJ4.out; have := HJ9.out; have := HK3.out; omega
                      case rel => exact ⟨(x1_3), (wrap64 (x8_3 + 1)), (by first | rfl | (simp; done) | (simp [*]; done)), (by first | rfl | (simp; done) | (simp [*]; done)), H', ⟨by have := HJ4.out; have := HJ9.out; have := HK3.out; omega⟩, by repeat (first | exact Drawn0.refl _ | apply Drawn0.step)⟩
                  · rw [if_neg c12] at H
                    have c12b0 : decide (x8_3 ≤ 1048576) = false := decide_eq_false c12
                    clear c12
                    simp only [Option.some.injEq, Prod.mk.injEq] at H
                    obtain ⟨rfl, rfl⟩ := H
                    go_wp2
                    go_ret2
                    exact ⟨by first | rfl | (simp; done) | (simp [*]; done), by repeat (first | exact Drawn0.refl _ | apply Drawn0.step)⟩

end Go.Proofs.Ytpfiecjacpbhkaa.F

/- What the calendar's functions and the references come to, in the words of the plain law: no condition but list lengths of at most 1000 where stated. -/
namespace Go.Proofs.Ytpfiecjacpbhkaa.Hx
open Go.RowKit Go.Proofs.YtpfiecjacpbhkaaW.PrintWords Go.Proofs.YtpfiecjacpbhkaaW.PrintLast Go.Proofs.YtpfiecjacpbhkaaW.PrintMore F Hm
set_option linter.unusedVariables false

theorem ev_const {α : Type} {o : Option α} {r : α} (h : o = some r) : Ev (fun _ => o) r := ⟨0, fun _ _ => h⟩
theorem ev_if {α : Type} {c : Prop} [Decidable c] {g f : Nat → Option α} {r : α} (h : c) (k : Ev g r) : Ev (fun n => if c then g n else f n) r := by
  obtain ⟨K, k⟩ := k
  exact ⟨K, fun n hn => by show (if c then g n else f n) = _; rw [if_pos h]; exact k n hn⟩
theorem ev_else {α : Type} {c : Prop} [Decidable c] {g f : Nat → Option α} {r : α} (h : ¬ c) (k : Ev f r) : Ev (fun n => if c then g n else f n) r := by
  obtain ⟨K, k⟩ := k
  exact ⟨K, fun n hn => by show (if c then g n else f n) = _; rw [if_neg h]; exact k n hn⟩
theorem ev_then {α β : Type} {o : Option α} {f : Nat → α → Option β} {a : α} {r : β} (h : o = some a) (k : Ev (fun n => f n a) r) : Ev (fun n => o.bind (f n)) r := by
  obtain ⟨K, k⟩ := k
  exact ⟨K, fun n hn => by show o.bind (f n) = _; rw [h]; exact k n hn⟩
theorem w64 (x : Int) (h0 : -9223372036854775808 ≤ x) (h1 : x ≤ 9223372036854775807) : wrap64 x = x := by
  unfold wrap64
  omega

/-! ### days -/
def isD (d : Int) : Bool := decide (0 ≤ d) && decide (d ≤ 1048576)
theorem isDay_some (d : Int) : calendar_isDay.f d = some (isD d) := by
  unfold calendar_isDay.f isD
  by_cases h : d ≥ 0
  · rw [if_pos h, decide_eq_true (show 0 ≤ d from h), Bool.true_and]
  · rw [if_neg h, decide_eq_false (show ¬ 0 ≤ d from h), Bool.false_and]
theorem refDay_some (d : Int) : insolvencyref1_IsDay.f d = some (isD d) := isDay_some d
theorem tmod_pos (d m : Int) (h : 0 ≤ d) : Int.tmod d m = d % m := Int.tmod_eq_emod_of_nonneg h
theorem tmod_neg (d m : Int) (h : d < 0) : Int.tmod d m = -((-d) % m) := by
  have e : Int.tmod d m = -(Int.tmod (-d) m) := by rw [Int.neg_tmod, Int.neg_neg]
  rw [e, tmod_pos (-d) m (by omega)]
theorem tmod7 (d : Int) : Int.tmod (wrap64 (Int.tmod d 7 + 7)) 7 = d % 7 := by
  by_cases h : 0 ≤ d
  · rw [tmod_pos d 7 h, w64 _ (by omega) (by omega), tmod_pos _ 7 (by omega)]
    omega
  · rw [tmod_neg d 7 (by omega), w64 _ (by omega) (by omega), tmod_pos _ 7 (by omega)]
    omega
theorem weekday_some (d : Int) : calendar_Weekday.f d = some (d % 7) := by
  unfold calendar_Weekday.f
  rw [tmod7]
theorem refWeekday_some (d : Int) : insolvencyref1_Weekday.f d = some (d % 7) := by
  unfold insolvencyref1_Weekday.f
  by_cases h0 : 0 ≤ d
  · rw [tmod_pos d 7 h0, if_neg (by omega)]
  · rw [tmod_neg d 7 (by omega)]
    by_cases h : -((-d) % 7) < 0
    · rw [if_pos h, w64 _ (by omega) (by omega)]
      congr 1
      omega
    · rw [if_neg h]
      congr 1
      omega

/-! ### the reference's IsBusiness -/
theorem has_ev (l : List Int) (d : Int) : ∀ (n i : Nat), i ≤ l.length → l.length - i = n → l.length ≤ 9223372036854775806 →
    Ev (fun k => insolvencyref1_has.l0 k l d (i : Int)) ((l.drop i).contains d) := by
  intro n
  induction n with
  | zero =>
    intro i hi hn hl
    refine Ev.step (f := fun _ => some false) (fun k => ?_) (by rw [List.drop_eq_nil_of_le (by omega)]; exact Ev.now false)
    rw [insolvencyref1_has.l0, if_neg (by omega)]
  | succ n ih =>
    intro i hi hn hl
    have hlt : i < l.length := by omega
    have e : l.drop i = l[i] :: l.drop (i + 1) := List.drop_eq_getElem_cons hlt
    rw [e, List.contains_cons]
    by_cases hd : rd l (i : Int) = d
    · refine Ev.step (f := fun _ => some true) (fun k => ?_) ?_
      · rw [insolvencyref1_has.l0, if_pos (by omega), if_pos (by omega), if_pos hd]
      · rw [rd_nat l i hlt] at hd
        rw [hd]
        simpa using Ev.now true
    · refine Ev.step (f := fun k => insolvencyref1_has.l0 k l d ((i + 1 : Nat) : Int)) (fun k => ?_) ?_
      · rw [insolvencyref1_has.l0, if_pos (by omega), if_pos (by omega), if_neg hd, w64 _ (by omega) (by omega)]
        rfl
      · rw [rd_nat l i hlt] at hd
        rw [show (d == l[i]) = false from by simpa using fun z => hd z.symm, Bool.false_or]
        exact ih (i + 1) (by omega) (by omega) hl
theorem refBus_ev (hs : List Int) (d : Int) (hl : hs.length ≤ 9223372036854775806) : Ev (fun k => insolvencyref1_IsBusiness.f k d hs) (bus hs d) := by
  unfold insolvencyref1_IsBusiness.f
  refine ev_then (refDay_some d) ?_
  have hb : bus hs d = (isD d && (decide (d % 7 < 5) && !hs.contains d)) := by unfold bus isD; rw [Bool.and_assoc]
  rw [hb]
  cases isD d with
  | false => exact ev_else (by simp) (Ev.now false)
  | true =>
    refine ev_if rfl (ev_then (refWeekday_some d) ?_)
    by_cases h5 : d % 7 < 5
    · rw [decide_eq_true h5]
      refine ev_if h5 ?_
      have := has_ev hs d hs.length 0 (by omega) (by omega) hl
      rw [List.drop_zero] at this
      simp only [Bool.true_and]
      exact Ev.bind (f := fun _ t => some (!t)) this (Ev.now _)
    · rw [decide_eq_false h5]
      exact ev_else h5 (Ev.now false)

/-! ### the list of closed days -/
theorem sorted_loop (hs : List Int) (hl : hs.length ≤ 1000) : ∀ (n i : Nat) (acc : List Int), i ≤ hs.length → hs.length - i = n → acc.length ≤ i →
    Ev (fun k => calendar_sorted.l0 k acc hs (hs.length : Int) (i : Int)) (Lib.compact ((acc ++ (hs.drop i).filter fun h => decide (0 ≤ h) && (decide (h ≤ 1048576) && decide (h % 7 < 5))).mergeSort fun x y => decide (x ≤ y))) := by
  intro n
  induction n with
  | zero =>
    intro i acc hi hn ha
    refine Ev.step (f := fun _ => some (Lib.compact (acc.mergeSort fun x y => decide (x ≤ y)))) (fun k => ?_) ?_
    · rw [calendar_sorted.l0, if_neg (by omega)]
      simp [Hw.slices_Sort_closed.f, Hw.slices_Compact_closed.f, show acc.length < 4611686018427387904 by omega]
    · rw [List.drop_eq_nil_of_le (by omega), List.filter_nil, List.append_nil]
      exact Ev.now _
  | succ n ih =>
    intro i acc hi hn ha
    have hlt : i < hs.length := by omega
    have e : hs.drop i = hs[i] :: hs.drop (i + 1) := List.drop_eq_getElem_cons hlt
    have er : rd hs (i : Int) = hs[i] := rd_nat hs i hlt
    rw [e, List.filter_cons]
    have go : ∀ acc' : List Int, acc'.length ≤ i + 1 → Ev (fun k => calendar_sorted.l0 k acc' hs (hs.length : Int) (wrap64 ((i : Int) + 1))) (Lib.compact ((acc' ++ (hs.drop (i + 1)).filter fun h => decide (0 ≤ h) && (decide (h ≤ 1048576) && decide (h % 7 < 5))).mergeSort fun x y => decide (x ≤ y))) := by
      intro acc' ha'
      rw [w64 _ (by omega) (by omega)]
      exact ih (i + 1) acc' (by omega) (by omega) ha'
    by_cases hd : isD hs[i] = true
    · by_cases h5 : hs[i] % 7 < 5
      · rw [if_pos (by simp only [isD, Bool.and_eq_true, decide_eq_true_eq] at hd ⊢; exact ⟨hd.1, hd.2, h5⟩)]
        refine Ev.step (f := fun k => calendar_sorted.l0 k (acc ++ [hs[i]]) hs (hs.length : Int) (wrap64 ((i : Int) + 1))) (fun k => ?_) ?_
        · rw [calendar_sorted.l0, if_pos (by omega), if_pos (by omega), if_pos (by omega), er, isDay_some, Option.bind_some, if_pos hd, weekday_some, Option.bind_some, if_pos h5, if_pos (by omega)]
        · have := go (acc ++ [hs[i]]) (by simp; omega)
          rw [List.append_assoc] at this
          exact this
      · rw [if_neg (by simp only [Bool.and_eq_true, decide_eq_true_eq]; intro z; exact h5 z.2.2)]
        refine Ev.step (f := fun k => calendar_sorted.l0 k acc hs (hs.length : Int) (wrap64 ((i : Int) + 1))) (fun k => ?_) (go acc (by omega))
        rw [calendar_sorted.l0, if_pos (by omega), if_pos (by omega), if_pos (by omega), er, isDay_some, Option.bind_some, if_pos hd, weekday_some, Option.bind_some, if_neg h5]
    · rw [if_neg (by simp only [isD, Bool.and_eq_true, decide_eq_true_eq] at hd ⊢; intro z; exact hd ⟨z.1, z.2.1⟩)]
      refine Ev.step (f := fun k => calendar_sorted.l0 k acc hs (hs.length : Int) (wrap64 ((i : Int) + 1))) (fun k => ?_) (go acc (by omega))
      rw [calendar_sorted.l0, if_pos (by omega), if_pos (by omega), if_pos (by omega), er, isDay_some, Option.bind_some, if_neg hd]
theorem sorted_ev (hs : List Int) (hl : hs.length ≤ 1000) : Ev (fun k => calendar_sorted.f k hs) (closedOf hs) := by
  have := sorted_loop hs hl hs.length 0 [] (by omega) (by omega) (by simp)
  rw [List.drop_zero, List.nil_append] at this
  exact this

/-! ### before, nth -/
theorem before_some (hs c : List Int) (hc : IsClosed hs c) (hl : c.length ≤ 1000) (d : Nat) (hd : d ≤ 1048577) : E.calendar_closed_before.f c (d : Int) = some (cnt hs d : Int) := by
  have h1 := cnt_closed hc d hd
  have h2 := bs_nb c (d : Int) hc.1
  have h3 := nb_le c (d : Int)
  have h4 := cnt_le hs d
  unfold E.calendar_closed_before.f Hw.sort_SearchInts.f
  rw [if_pos (by omega), Option.bind_some, h2]
  have e : mn (Int.tmod (d : Int) 7) 5 = ((min (d % 7) 5 : Nat) : Int) := by
    rw [tmod_pos _ 7 (by omega)]
    unfold mn
    split <;> omega
  have e2 : Int.tdiv (d : Int) 7 = (d : Int) / 7 := Int.tdiv_eq_ediv_of_nonneg (by omega)
  rw [e, e2, w64 ((d : Int) / 7) (by omega) (by omega)]
  unfold wk at h1
  rw [w64 ((d : Int) / 7 * 5) (by omega) (by omega), w64 (_ + _) (by omega) (by omega), w64 _ (by omega) (by omega)]
  congr 1
  omega
theorem nth_some (hs c : List Int) (hc : IsClosed hs c) (hl : c.length ≤ 1000) (m : Int) (hm : 0 ≤ m) : ∃ r, Hw.calendar_closed_nth.f c m = some r ∧ IsRes hs m r := by
  unfold Hw.calendar_closed_nth.f
  rw [if_pos (by omega)]
  refine ⟨_, ?_, res_of_bs hm (p := Hw.nthP c m) (fun d hd => ?_)⟩
  · split <;> rfl
  · unfold Hw.nthP
    have := before_some hs c hc hl (d + 1) (by omega)
    rw [show ((d + 1 : Nat) : Int) = (d : Int) + 1 by omega] at this
    rw [this]
    rfl

/-! ### Add -/
/-- How many business days may lie up to the answer, less one. -/
def mOf (hs : List Int) (day n : Int) : Int := if n = 0 then (cnt hs day.toNat : Int) else (cnt hs (day.toNat + 1) : Int) + n - 1
/-- What Add answers. -/
def IsAdd (hs : List Int) (day n : Int) (r : Int × Int) : Prop :=
  if (hs.length : Int) > 1000 then r = (0, 2) else if isD day = true ∧ 0 ≤ n ∧ n ≤ 1048576 then IsRes hs (mOf hs day n) r else r = (0, 1)
theorem IsAdd.unique {hs : List Int} {day n : Int} {x y : Int × Int} (h : IsAdd hs day n x) (k : IsAdd hs day n y) : x = y := by
  unfold IsAdd at h k
  by_cases h1 : (hs.length : Int) > 1000
  · rw [if_pos h1] at h k; rw [h, k]
  · rw [if_neg h1] at h k
    by_cases h2 : isD day = true ∧ 0 ≤ n ∧ n ≤ 1048576
    · rw [if_pos h2] at h k; exact h.unique k
    · rw [if_neg h2] at h k; rw [h, k]
theorem IsAdd.long {hs : List Int} {day n : Int} (h : (hs.length : Int) > 1000) : IsAdd hs day n (0, 2) := by unfold IsAdd; rw [if_pos h]
theorem IsAdd.ok {hs : List Int} {day n : Int} {r : Int × Int} (h : ¬ (hs.length : Int) > 1000) (h2 : isD day = true ∧ 0 ≤ n ∧ n ≤ 1048576) (hr : IsRes hs (mOf hs day n) r) : IsAdd hs day n r := by unfold IsAdd; rw [if_neg h, if_pos h2]; exact hr
theorem IsAdd.bad {hs : List Int} {day n : Int} (h : ¬ (hs.length : Int) > 1000) (h2 : ¬ (isD day = true ∧ 0 ≤ n ∧ n ≤ 1048576)) : IsAdd hs day n (0, 1) := by unfold IsAdd; rw [if_neg h, if_neg h2]
theorem mOf_nonneg (hs : List Int) (day n : Int) (hn : 0 ≤ n) : 0 ≤ mOf hs day n := by
  unfold mOf
  split <;> omega
theorem add_ev (hs : List Int) (day n : Int) : ∃ r, Ev (fun k => calendar_Add.f k day n hs) r ∧ IsAdd hs day n r := by
  unfold calendar_Add.f
  by_cases h1 : (hs.length : Int) > 1000
  · exact ⟨(0, 2), ev_if h1 (Ev.now _), IsAdd.long h1⟩
  have bad : ∀ b : Bool, b = true → Ev (fun k => calendar_Add.j0 k day n hs b) ((0, 1) : Int × Int) := by
    rintro b rfl
    refine Ev.step (f := fun _ => some (0, 1)) (fun k => ?_) (Ev.now _)
    rw [calendar_Add.j0, if_pos rfl]
  by_cases h2 : isD day = true ∧ 0 ≤ n ∧ n ≤ 1048576
  · have h2' := h2
    obtain ⟨hd, hn0, hn1⟩ := h2
    have hd' := hd
    simp only [isD, Bool.and_eq_true, decide_eq_true_eq] at hd'
    obtain ⟨d, rfl⟩ := Int.eq_ofNat_of_zero_le hd'.1
    have hcl := closedOf_closed hs
    have hln : (closedOf hs).length ≤ 1000 := by have := closedOf_length hs; omega
    obtain ⟨r, hr, hres⟩ := nth_some hs (closedOf hs) hcl hln (mOf hs (d : Int) n) (mOf_nonneg _ _ _ hn0)
    refine ⟨r, ?_, IsAdd.ok h1 h2' hres⟩
    refine ev_else h1 (ev_then (isDay_some _) (ev_if hd (ev_else (show ¬ n < 0 by omega) ?_)))
    rw [decide_eq_false (show ¬ n > 1048576 by omega)]
    refine Ev.step (f := fun k => (calendar_sorted.f k hs).bind fun t => _) (fun k => ?_) (Ev.bind (f := fun _ t => if n = 0 then ((E.calendar_closed_before.f t (d : Int)).bind fun t115 => ((Hw.calendar_closed_nth.f t t115).bind fun bt116 => (some (bt116.1, bt116.2)))) else ((E.calendar_closed_before.f t (wrap64 ((d : Int) + 1))).bind fun t118 => ((Hw.calendar_closed_nth.f t (wrap64 ((wrap64 (t118 + n)) - 1))).bind fun bt119 => (some (bt119.1, bt119.2))))) (sorted_ev hs (by omega)) ?_)
    · rw [calendar_Add.j0, if_neg (by simp)]
    · have hdn : d ≤ 1048576 := by omega
      have c1 := cnt_le hs (d + 1)
      unfold mOf at hr
      rw [Int.toNat_natCast] at hr
      by_cases h0 : n = 0
      · rw [if_pos h0] at hr ⊢
        rw [before_some hs _ hcl hln d (by omega), Option.bind_some, hr]
        exact Ev.now _
      · rw [if_neg h0] at hr ⊢
        rw [w64 ((d : Int) + 1) (by omega) (by omega), show ((d : Int) + 1) = ((d + 1 : Nat) : Int) by omega, before_some hs _ hcl hln (d + 1) (by omega), Option.bind_some, w64 (_ + n) (by omega) (by omega), w64 _ (by omega) (by omega), hr]
        exact Ev.now _
  · refine ⟨(0, 1), ?_, IsAdd.bad h1 h2⟩
    refine ev_else h1 (ev_then (isDay_some _) ?_)
    by_cases hd : isD day = true
    · refine ev_if hd ?_
      by_cases hn : n < 0
      · exact ev_if hn (bad _ rfl)
      · exact ev_else hn (bad _ (decide_eq_true (show n > 1048576 from by
          have h3 : ¬ (0 ≤ n ∧ n ≤ 1048576) := fun z => h2 ⟨hd, z⟩
          omega)))
    · exact ev_else hd (bad _ rfl)

/-! ### the reference's AddDays -/
theorem refLoop (hs : List Int) (hl : hs.length ≤ 1000) : ∀ (j d : Nat) (n : Int), d ≤ 1048577 → 1048577 - d = j → 0 ≤ n → n ≤ 1048576 →
    ∃ r, Ev (fun k => insolvencyref1_AddDays.l0 k n hs (d : Int)) r ∧ IsRes hs ((cnt hs d : Int) + (if n ≤ 1 then 1 else n) - 1) r := by
  intro j
  induction j with
  | zero =>
    intro d n hd hj h0 h1
    obtain rfl : d = 1048577 := by omega
    refine ⟨(0, 1), Ev.step (f := fun _ => some (0, 1)) (fun k => ?_) (Ev.now _), .inr ⟨rfl, by split <;> omega⟩⟩
    rw [insolvencyref1_AddDays.l0, if_neg (by omega)]
  | succ j ih =>
    intro d n hd hj h0 h1
    have hb := refBus_ev hs (d : Int) (by omega)
    have hc : cnt hs (d + 1) = cnt hs d + if bus hs (d : Int) = true then 1 else 0 := rfl
    have unf : ∀ k, insolvencyref1_AddDays.l0 (k + 1) n hs (d : Int) = (insolvencyref1_IsBusiness.f k (d : Int) hs).bind fun t => if t = true then (if n ≤ 1 then some ((d : Int), 0) else insolvencyref1_AddDays.l0 k (wrap64 (n - 1)) hs (wrap64 ((d : Int) + 1))) else insolvencyref1_AddDays.l0 k n hs (wrap64 ((d : Int) + 1)) := fun k => by
      rw [insolvencyref1_AddDays.l0, if_pos (by omega)]
    have e1 : wrap64 ((d : Int) + 1) = ((d + 1 : Nat) : Int) := by rw [w64 _ (by omega) (by omega)]; omega
    by_cases hbus : bus hs (d : Int) = true
    · rw [if_pos hbus] at hc
      by_cases hn : n ≤ 1
      · refine ⟨((d : Int), 0), Ev.step unf (Ev.bind hb ?_), .inl ⟨d, by omega, rfl, by rw [if_pos hn]; omega, by rw [if_pos hn]; omega⟩⟩
        exact ev_if hbus (ev_if hn (Ev.now _))
      · obtain ⟨r, hr, hres⟩ := ih (d + 1) (n - 1) (by omega) (by omega) (by omega) (by omega)
        refine ⟨r, Ev.step unf (Ev.bind hb ?_), ?_⟩
        · refine ev_if hbus (ev_else hn ?_)
          rw [e1, w64 (n - 1) (by omega) (by omega)]
          exact hr
        · rw [if_neg hn]
          rw [hc] at hres
          by_cases h2 : n - 1 ≤ 1
          · rw [if_pos h2] at hres
            rw [show (cnt hs d : Int) + n - 1 = ((cnt hs d + 1 : Nat) : Int) + 1 - 1 by omega]
            exact hres
          · rw [if_neg h2] at hres
            rw [show (cnt hs d : Int) + n - 1 = ((cnt hs d + 1 : Nat) : Int) + (n - 1) - 1 by omega]
            exact hres
    · obtain ⟨r, hr, hres⟩ := ih (d + 1) n (by omega) (by omega) h0 h1
      refine ⟨r, Ev.step unf (Ev.bind hb ?_), ?_⟩
      · refine ev_else hbus ?_
        rw [e1]
        exact hr
      · rw [if_neg hbus] at hc
        rw [hc] at hres
        exact hres
theorem refAdd_ev (hs : List Int) (day n : Int) : ∃ r, Ev (fun k => insolvencyref1_AddDays.f k day n hs) r ∧ IsAdd hs day n r := by
  unfold insolvencyref1_AddDays.f
  by_cases h1 : (hs.length : Int) > 1000
  · exact ⟨(0, 2), ev_if h1 (Ev.now _), IsAdd.long h1⟩
  have bad : ∀ b : Bool, b = true → Ev (fun k => insolvencyref1_AddDays.j0 k day n hs b) ((0, 1) : Int × Int) := by
    rintro b rfl
    refine Ev.step (f := fun _ => some (0, 1)) (fun k => ?_) (Ev.now _)
    rw [insolvencyref1_AddDays.j0, if_pos rfl]
  by_cases h2 : isD day = true ∧ 0 ≤ n ∧ n ≤ 1048576
  · have h2' := h2
    obtain ⟨hd, hn0, hn1⟩ := h2
    have hd' := hd
    simp only [isD, Bool.and_eq_true, decide_eq_true_eq] at hd'
    obtain ⟨d, rfl⟩ := Int.eq_ofNat_of_zero_le hd'.1
    have start : ∃ r, Ev (fun k => insolvencyref1_AddDays.j0 k (d : Int) n hs false) r ∧ IsRes hs (mOf hs (d : Int) n) r := by
      unfold mOf
      rw [Int.toNat_natCast]
      by_cases h0 : n = 0
      · obtain ⟨r, hr, hres⟩ := refLoop hs (by omega) _ d n (by omega) rfl (by omega) hn1
        refine ⟨r, Ev.step (f := fun k => insolvencyref1_AddDays.j1 k n hs (d : Int)) (fun k => ?_) (Ev.step (f := fun k => insolvencyref1_AddDays.l0 k n hs (d : Int)) (fun k => ?_) hr), ?_⟩
        · rw [insolvencyref1_AddDays.j0, if_neg (by simp), if_neg (by omega)]
        · rw [insolvencyref1_AddDays.j1]
        · rw [if_pos h0]
          rw [if_pos (by omega : n ≤ 1)] at hres
          rw [show (cnt hs d : Int) + 1 - 1 = (cnt hs d : Int) by omega] at hres
          exact hres
      · obtain ⟨r, hr, hres⟩ := refLoop hs (by omega) _ (d + 1) n (by omega) rfl (by omega) hn1
        refine ⟨r, Ev.step (f := fun k => insolvencyref1_AddDays.j1 k n hs ((d + 1 : Nat) : Int)) (fun k => ?_) (Ev.step (f := fun k => insolvencyref1_AddDays.l0 k n hs ((d + 1 : Nat) : Int)) (fun k => ?_) hr), ?_⟩
        · rw [insolvencyref1_AddDays.j0, if_neg (by simp), if_pos (by omega), w64 _ (by omega) (by omega)]
          rfl
        · rw [insolvencyref1_AddDays.j1]
        · rw [if_neg h0]
          by_cases h3 : n ≤ 1
          · rw [if_pos h3] at hres
            rw [show n = 1 by omega]
            exact hres
          · rw [if_neg h3] at hres
            exact hres
    obtain ⟨r, hr, hres⟩ := start
    refine ⟨r, ?_, IsAdd.ok h1 h2' hres⟩
    refine ev_else h1 (ev_then (refDay_some _) (ev_if hd (ev_else (show ¬ n < 0 by omega) ?_)))
    rw [decide_eq_false (show ¬ n > 1048576 by omega)]
    exact hr
  · refine ⟨(0, 1), ?_, IsAdd.bad h1 h2⟩
    refine ev_else h1 (ev_then (refDay_some _) ?_)
    by_cases hd : isD day = true
    · refine ev_if hd ?_
      by_cases hn : n < 0
      · exact ev_if hn (bad _ rfl)
      · exact ev_else hn (bad _ (decide_eq_true (show n > 1048576 from by
          have h3 : ¬ (0 ≤ n ∧ n ≤ 1048576) := fun z => h2 ⟨hd, z⟩
          omega)))
    · exact ev_else hd (bad _ rfl)
/-- Add and AddDays answer alike. -/
theorem adds (hs : List Int) (day n : Int) : ∃ r, Ev (fun k => calendar_Add.f k day n hs) r ∧ Ev (fun k => insolvencyref1_AddDays.f k day n hs) r ∧ IsAdd hs day n r := by
  obtain ⟨r, h1, h2⟩ := add_ev hs day n
  obtain ⟨q, k1, k2⟩ := refAdd_ev hs day n
  obtain rfl := h2.unique k2
  exact ⟨r, h1, k1, h2⟩
end Go.Proofs.Ytpfiecjacpbhkaa.Hx

/- New and the comparison of dockets, in the words of the plain law: what the printed functions come to, after rounds enough. -/
namespace Go.Proofs.Ytpfiecjacpbhkaa.D
open Go.RowKit Go.Proofs.YtpfiecjacpbhkaaW.PrintWords Go.Proofs.YtpfiecjacpbhkaaW.PrintLast Go.Proofs.YtpfiecjacpbhkaaW.PrintMore Hx
set_option linter.unusedVariables false
set_option linter.unusedSimpArgs false

theorem awake_ev : Ev (fun k => insolvencylaw33_awake.f k) true := Ev.of (k := 64) (fun k => insolvencylaw33_awake.mono k) (by kernel_rfl)

/-- The error of a day and of terms. -/
def ctE (day ans app : Int) (n : Nat) : Int :=
  if day < 0 ∨ 1048576 < day then 1 else if 1000 < n then 2 else if (ans < 1 ∨ 250 < ans) ∨ app < 1 ∨ 250 < app then 1 else 0
theorem checkTerms_ev (day ans app : Int) (hs : List Int) : Ev (fun k => docket_checkTerms.f k day ans app hs) (ctE day ans app hs.length) := by
  refine ⟨1, fun k hk => ?_⟩
  obtain ⟨k, rfl⟩ : ∃ m, k = m + 1 := ⟨k - 1, by omega⟩
  show docket_checkTerms.f (k + 1) day ans app hs = _
  unfold docket_checkTerms.f docket_checkTerms.j0 ctE
  repeat' split
  all_goals first | rfl | (exfalso; simp at *; done) | (exfalso; simp at *; omega)
theorem refCheckTerms_some (day ans app : Int) (hs : List Int) : insolvencyref33_checkTerms.f day ans app hs = some (ctE day ans app hs.length) := by
  unfold insolvencyref33_checkTerms.f insolvencyref33_day.f ctE
  by_cases h0 : day ≥ 0
  · rw [if_pos h0, Option.bind_some]
    repeat' split
    all_goals first | rfl | (exfalso; simp at *; done) | (exfalso; simp at *; omega)
  · rw [if_neg h0, Option.bind_some, if_neg (by simp), if_pos (by omega)]
theorem ctE_len {day ans app : Int} {n : Nat} (h : ctE day ans app n = 0) : n ≤ 1000 := by
  unfold ctE at h
  split at h
  · cases h
  · split at h
    · cases h
    · omega

theorem cloneInts_some (l : List Int) (h : l.length < 17592186044416) : cloneInts.f l = some l := by
  unfold cloneInts.f
  rw [Option.bind_some, if_pos (by simpa using h), List.nil_append]

abbrev Dn := Int × Int × Int × List Int × List S50 × Int
def newV (day ans app : Int) (hs : List Int) : Dn := if ctE day ans app hs.length = 0 then (day, ans, app, hs, [], 0) else (0, 0, 0, [], [], ctE day ans app hs.length)
theorem newV_ok {day ans app : Int} {hs : List Int} (h : ctE day ans app hs.length = 0) : newV day ans app hs = (day, ans, app, hs, [], 0) := if_pos h
theorem newV_err {day ans app : Int} {hs : List Int} (h : ¬ ctE day ans app hs.length = 0) : newV day ans app hs = (0, 0, 0, [], [], ctE day ans app hs.length) := if_neg h
theorem new_ev (day ans app : Int) (hs : List Int) : Ev (fun k => docket_New.f k day ans app hs) (newV day ans app hs) := by
  unfold docket_New.f
  refine Ev.bind (checkTerms_ev day ans app hs) ?_
  by_cases h : ctE day ans app hs.length = 0
  · rw [newV_ok h]
    refine ev_if h (ev_then (a := (ans, app, hs)) ?_ (Ev.now _))
    unfold docket_copyTerms.f
    rw [cloneInts_some hs (by have := ctE_len h; omega)]
    rfl
  · rw [newV_err h]
    exact ev_else h (Ev.now _)
theorem refNew_some (day ans app : Int) (hs : List Int) : insolvencyref33_NewDocket.f day ans app hs = some (newV day ans app hs) := by
  unfold insolvencyref33_NewDocket.f
  rw [refCheckTerms_some, Option.bind_some]
  by_cases h : ctE day ans app hs.length = 0
  · rw [newV_ok h, if_pos h, Option.bind_some, if_pos (by have := ctE_len h; simp; omega), List.nil_append]
  · rw [newV_err h, if_neg h]

/-! ### comparison -/
theorem ints_loop (l : List Int) (hl : l.length < 4611686018427387904) : ∀ (n i : Nat), i ≤ l.length → l.length - i = n → Ev (fun k => insolvencyref1_SameInts.l0 k l l (i : Int)) true
  | 0, i, h1, h2 => by
    refine Ev.step (fun k => rfl) (ev_else ?_ (Ev.now _))
    omega
  | n + 1, i, h1, h2 => by
    refine Ev.step (fun k => rfl) (ev_if (by omega) (ev_if (by omega) (ev_if (by omega) (ev_if rfl ?_))))
    have e : wrap64 ((i : Int) + 1) = ((i + 1 : Nat) : Int) := by rw [w64 _ (by omega) (by omega)]; omega
    rw [e]
    exact ints_loop l hl n (i + 1) (by omega) (by omega)
theorem sameInts_ev (l : List Int) (hl : l.length < 4611686018427387904) : Ev (fun k => insolvencyref1_SameInts.f k l l) true :=
  ev_if rfl (ints_loop l hl l.length 0 (Nat.zero_le _) (by omega))
theorem dock_loop (d a p : Int) (hs : List Int) (l : List S50) (hl : l.length < 4611686018427387904) : ∀ (n i : Nat), i ≤ l.length → l.length - i = n → Ev (fun k => insolvencyref33_SameDocket.l0 k (i : Int) d a p hs l d a p hs l) true
  | 0, i, h1, h2 => by
    refine Ev.step (fun k => rfl) (ev_else ?_ (Ev.now _))
    omega
  | n + 1, i, h1, h2 => by
    refine Ev.step (fun k => rfl) (ev_if (by omega) (ev_if (by omega) (ev_if (by omega) (ev_else (by simp) ?_))))
    have e : wrap64 ((i : Int) + 1) = ((i + 1 : Nat) : Int) := by rw [w64 _ (by omega) (by omega)]; omega
    rw [e]
    exact dock_loop d a p hs l hl n (i + 1) (by omega) (by omega)
theorem sameDocket_ev (d a p : Int) (hs : List Int) (l : List S50) (hh : hs.length < 4611686018427387904) (hl : l.length < 4611686018427387904) : Ev (fun k => insolvencyref33_SameDocket.f k d a p hs l d a p hs l) true := by
  unfold insolvencyref33_SameDocket.f
  refine ev_if rfl (ev_if rfl (ev_if rfl (Ev.bind (sameInts_ev hs hh) (ev_if rfl ?_))))
  refine Ev.step (fun k => rfl) (ev_else (by simp) ?_)
  exact dock_loop d a p hs l hl l.length 0 (Nat.zero_le _) (by omega)
end Go.Proofs.Ytpfiecjacpbhkaa.D

/- The plain law of DocketNew: no condition. -/
namespace Go.Proofs.Ytpfiecjacpbhkaa.D
open Go.RowKit Go.Proofs.YtpfiecjacpbhkaaW.PrintWords Go.Proofs.YtpfiecjacpbhkaaW.PrintLast Go.Proofs.YtpfiecjacpbhkaaW.PrintMore Hx
set_option linter.unusedVariables false

theorem same_new (day ans app : Int) (hs : List Int) (hl : hs.length < 4611686018427387904) :
    Ev (fun k => insolvencyref33_SameDocket.f k (newV day ans app hs).1 (newV day ans app hs).2.1 (newV day ans app hs).2.2.1 (newV day ans app hs).2.2.2.1 (newV day ans app hs).2.2.2.2.1 (newV day ans app hs).1 (newV day ans app hs).2.1 (newV day ans app hs).2.2.1 (newV day ans app hs).2.2.2.1 (newV day ans app hs).2.2.2.2.1) true := by
  by_cases h : ctE day ans app hs.length = 0
  · rw [newV_ok h]
    exact sameDocket_ev _ _ _ _ _ hl (by simp)
  · rw [newV_err h]
    exact sameDocket_ev _ _ _ _ _ (by simp) (by simp)
end Go.Proofs.Ytpfiecjacpbhkaa.D
namespace Go.Proofs.Ytpfiecjacpbhkaa.Pure
open Go.RowKit Go.Proofs.YtpfiecjacpbhkaaW.PrintWords Go.Proofs.YtpfiecjacpbhkaaW.PrintLast Go.Proofs.YtpfiecjacpbhkaaW.PrintMore Hx D
theorem DocketNew : insolvencylaw33_DocketNew.Pure := by
  intro a0 x1 y1 l1 a2 a3 a4 w0 wx wy wl wm w2 w3 w4
  refine Ev.rounds (g := fun k => insolvencylaw33_DocketNew.f k a0 x1 y1 l1 a2 a3 a4) ?_
  unfold insolvencylaw33_DocketNew.f
  by_cases h : (l1.length : Int) > 20
  · exact ev_if h (Ev.bind awake_ev (Ev.now _))
  · have h4 : 0 ≤ a4 ∧ a4 < 65536 := by
      have h := w4
      simp [Lit.wf, IntKind.min, IntKind.max, IntKind.signed, IntKind.bits] at h
      omega
    have hm : 0 ≤ Int.tmod a4 20 ∧ Int.tmod a4 20 < 20 := by rw [tmod_pos _ _ h4.1]; omega
    have e1 : wrap64 (990 + wrap64 (Int.tmod a4 20)) = 990 + Int.tmod a4 20 := by rw [w64 (Int.tmod a4 20) (by omega) (by omega), w64 _ (by omega) (by omega)]
    rw [e1]
    refine ev_else h (ev_if (by omega) (ev_if (by omega) ?_))
    refine Ev.bind (Ev.now _) (Ev.bind (new_ev a0 x1 y1 l1) (ev_then (refNew_some a0 x1 y1 l1) (Ev.bind (new_ev 5 (wrap64 a2) (wrap64 a3) _) (ev_then (refNew_some 5 (wrap64 a2) (wrap64 a3) _) (Ev.bind awake_ev (ev_if rfl (ev_if rfl (Ev.bind (same_new a0 x1 y1 l1 (by omega)) (ev_if rfl (ev_if rfl (Ev.bind (same_new 5 (wrap64 a2) (wrap64 a3) _ ?_) (Ev.now _))))))))))))
    rw [List.length_replicate]
    omega
end Go.Proofs.Ytpfiecjacpbhkaa.Pure

/- The row of DocketNew: its arguments opened, the walk ('insolvencylaw33_DocketNew.calls', printed), the pure statement (YtpfiecjacpbhkaaPureDocketNew), and all shut again. Written by a program of this session's. -/
namespace Go.Proofs.Ytpfiecjacpbhkaa.docketNew
open Go.ChangeShapes Go.WideShapes Go.ChangeAt Go.RowKit Go.Proofs.YtpfiecjacpbhkaaW.PrintWords
set_option linter.unusedVariables false
set_option linter.unusedSimpArgs false
theorem own : ownKnob Try.prog.godebug = none := by kernel_rfl
theorem laidOut : laidOutB Try.prog = true := by kernel_rfl
set_option maxRecDepth 100000 in
theorem lifted (os : Os) (started : os.Started) (H : Type) (enc : TypeId × Value → H) :
    ReturnsInHanded {} Try.checked os 5 .any (Rows.docketNewSpec.pre6 enc Try.prog Try.f5 Rows.docketNewRow.domain false) (Rows.docketNewSpec.post enc Try.prog Try.f5 false true false false) := by
  refine returnsInHanded_of_change_sized (C := Try.checked) own started (by kernel_rfl) Try.func5
    (ChangeSpec.witness6 (enc := enc) (C := Try.checked) false ⟨#[], #[.int .i64 0, .agg #[.int .i64 0, .int .i64 0, .slice none 0 0], .int .u8 0, .int .u8 0, .int .u16 0], []⟩ 8 (by kernel_rfl) (by kernel_rfl) (by kernel_rfl) (by kernel_rfl)) ?_
  intro W base args ds gs before hval0 hW hcnd hsz0 _
  have hval : ∀ (j : Nat) t v, Try.f5.params[j]? = some t → args[j]? = some v → Value.okWide Try.prog W .any base t v := hval0
  have hW' := hW
  obtain ⟨p, q, hA0, hV, rfl, hfz, hnd⟩ := hW
  have hA : DataW.TrodAll enc Try.prog W 0 (fun _ => true) true Try.f5.params.toList args.toList ds p := hA0
  rw [Try.params5] at hA hval
  obtain ⟨v0, vs0, d0, ds0, p0, q0, hargs, rfl, rfl, h0, r0⟩ := trodAll_cons hA
  obtain ⟨v1, vs1, d1, ds1, p1, q1, rfl, rfl, rfl, h1, r1⟩ := trodAll_cons r0
  obtain ⟨v2, vs2, d2, ds2, p2, q2, rfl, rfl, rfl, h2, r2⟩ := trodAll_cons r1
  obtain ⟨v3, vs3, d3, ds3, p3, q3, rfl, rfl, rfl, h3, r3⟩ := trodAll_cons r2
  obtain ⟨v4, vs4, d4, ds4, p4, q4, rfl, rfl, rfl, h4, r4⟩ := trodAll_cons r3
  obtain ⟨rfl, rfl, rfl⟩ := trodAll_nil r4
  obtain rfl : args = #[v0, v1, v2, v3, v4] := by cases args; simp_all
  obtain ⟨rfl, rfl⟩ := trodVars_none hV
  have k0 := h0
  have lt0 : ∀ x ∈ p0, x.block < W.heap.size := by obtain ⟨m, hm⟩ := k0; exact DataW.trod_lt m _ _ _ hm
  obtain ⟨a0, rfl, _, _, w0⟩ := open_int Try.underlying3 (hval 0 3 v0 rfl rfl) h0
  have k1 := h1
  have lt1 : ∀ x ∈ p1, x.block < W.heap.size := by obtain ⟨m, hm⟩ := k1; exact DataW.trod_lt m _ _ _ hm
  obtain ⟨x1, y1, A1, l1, c1, rfl, lc1, rr1, wx1, wy1, lm1, w1⟩ := Ho.open_terms (hval 1 27 v1 rfl rfl) h1
  have k2 := h2
  have lt2 : ∀ x ∈ p2, x.block < W.heap.size := by obtain ⟨m, hm⟩ := k2; exact DataW.trod_lt m _ _ _ hm
  obtain ⟨a2, rfl, _, _, w2⟩ := open_int Try.underlying5 (hval 2 5 v2 rfl rfl) h2
  have k3 := h3
  have lt3 : ∀ x ∈ p3, x.block < W.heap.size := by obtain ⟨m, hm⟩ := k3; exact DataW.trod_lt m _ _ _ hm
  obtain ⟨a3, rfl, _, _, w3⟩ := open_int Try.underlying5 (hval 3 5 v3 rfl rfl) h3
  have k4 := h4
  have lt4 : ∀ x ∈ p4, x.block < W.heap.size := by obtain ⟨m, hm⟩ := k4; exact DataW.trod_lt m _ _ _ hm
  obtain ⟨a4, rfl, _, _, w4⟩ := open_int Try.underlying54 (hval 4 54 v4 rfl rfl) h4
  clear hA0 hval0 hsz0
  obtain ⟨k, hk⟩ := Pure.DocketNew a0 x1 y1 l1 a2 a3 a4 w0 wx1 wy1 lm1 w1 w2 w3 w4
  refine (D.insolvencylaw33_DocketNew.calls k a0 x1 y1 _ _ l1 a2 a3 a4 true W rr1 lc1 hk).mono fun e W' ⟨he, bel⟩ => ?_
  subst he
  exact ⟨_, rfl, _, _, _, [], _, [], hW', trodAll_mk1 (shut_bool Try.underlying4 _), (trodAll_cons_mk (Below.trod laidOut (by kernel_rfl) (of_decide_eq_true (by kernel_rfl)) k0 bel lt0) (trodAll_cons_mk (Below.trod laidOut (by kernel_rfl) (of_decide_eq_true (by kernel_rfl)) k1 bel lt1) (trodAll_cons_mk (Below.trod laidOut (by kernel_rfl) (of_decide_eq_true (by kernel_rfl)) k2 bel lt2) (trodAll_cons_mk (Below.trod laidOut (by kernel_rfl) (of_decide_eq_true (by kernel_rfl)) k3 bel lt3) (trodAll_cons_mk (Below.trod laidOut (by kernel_rfl) (of_decide_eq_true (by kernel_rfl)) k4 bel lt4) trodAll_mk0))))), rfl, bel.frame _, fun h => by cases h⟩
theorem over : Rows.docketNewRow.holds Try.pinned (OpenSpec.ofChange Rows.docketNewSpec) :=
  OpenClaim.holds_of_wide 5 Try.f5 rfl rfl rfl rfl rfl rfl rfl ⟨rfl, rfl, rfl, rfl, rfl⟩ rfl rfl rfl rfl rfl (by kernel_rfl) Try.func5 (by kernel_rfl)
    (of_decide_eq_true (by kernel_rfl)) (by unfold Func.isWrapper; first | (rw [if_pos (by decide +kernel)]; kernel_rfl) | (rw [if_neg (by decide +kernel)]; exact ⟨rfl, rfl⟩))
    (fun os started H enc _ => lifted os started H enc)
theorem proved : Rows.DocketNewSaid := over
#print axioms proved
end Go.Proofs.Ytpfiecjacpbhkaa.docketNew
namespace Go.Proofs.Ytpfiecjacpbhkaa
/-- The row, under a short name, for the claim. -/
theorem docketNew_holds : Rows.DocketNewSaid := docketNew.proved
end Go.Proofs.Ytpfiecjacpbhkaa
