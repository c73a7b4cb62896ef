/- The row of NoticeWorse: its arguments opened, the walk ('insolvencylaw34_NoticeWorse.calls', printed), the pure statement (YtjdkfdcaicdenaaPureNoticeWorse), and all shut again. Written by a program of this session's. -/
import Derived.Test.YtjdkfdcaicdenaaRows
import Derived.Test.YtjdkfdcaicdenaaSayNoticeWorse
import Derived.Test.YtjdkfdcaicdenaaPureNoticeWorse
import Derived.WalkKit
import Derived.ProofKit
import Derived.OpenShut
import Derived.ShutString
import Derived.ChangeOld
import Derived.Below
import Derived.SizedLaws
import Derived.Carry
namespace Go.Proofs.Ytjdkfdcaicdenaa.noticeWorse
open Go.ChangeShapes Go.WideShapes Go.ChangeAt Go.RowKit Go.Proofs.YtjdkfdcaicdenaaW.PrintWords
set_option linter.unusedVariables false
set_option linter.unusedSimpArgs false
theorem own : ownKnob Try.prog.godebug = none := by kernel_rfl
theorem laidOut : laidOutB Try.prog = true := by kernel_rfl
set_option maxRecDepth 100000 in
theorem lifted (os : Os) (started : os.Started) (H : Type) (enc : TypeId × Value → H) :
    ReturnsInHanded {} Try.checked os 7 .any (Rows.noticeWorseSpec.pre6 enc Try.prog Try.f7 Rows.noticeWorseRow.domain false) (Rows.noticeWorseSpec.post enc Try.prog Try.f7 false true false false) := by
  refine returnsInHanded_of_change_sized (C := Try.checked) own started (by kernel_rfl) Try.func7
    (ChangeSpec.witness6 (enc := enc) (C := Try.checked) false ⟨#[], #[.agg #[.int .u8 0, .int .u8 0, .int .u8 0], .slice none 0 0, .slice none 0 0, .slice none 0 0], []⟩ 8 (by kernel_rfl) (by kernel_rfl) (by kernel_rfl) (by kernel_rfl)) ?_
  intro W base args ds gs before hval0 hW hcnd hsz0 _
  have hval : ∀ (j : Nat) t v, Try.f7.params[j]? = some t → args[j]? = some v → Value.okWide Try.prog W .any base t v := hval0
  have hW' := hW
  obtain ⟨p, q, hA0, hV, rfl, hfz, hnd⟩ := hW
  have hA : DataW.TrodAll enc Try.prog W 0 (fun _ => true) true Try.f7.params.toList args.toList ds p := hA0
  rw [Try.params7] at hA hval
  obtain ⟨v0, vs0, d0, ds0, p0, q0, hargs, rfl, rfl, h0, r0⟩ := trodAll_cons hA
  obtain ⟨v1, vs1, d1, ds1, p1, q1, rfl, rfl, rfl, h1, r1⟩ := trodAll_cons r0
  obtain ⟨v2, vs2, d2, ds2, p2, q2, rfl, rfl, rfl, h2, r2⟩ := trodAll_cons r1
  obtain ⟨v3, vs3, d3, ds3, p3, q3, rfl, rfl, rfl, h3, r3⟩ := trodAll_cons r2
  obtain ⟨rfl, rfl, rfl⟩ := trodAll_nil r3
  obtain rfl : args = #[v0, v1, v2, v3] := by cases args; simp_all
  obtain ⟨rfl, rfl⟩ := trodVars_none hV
  have k0 := h0
  have lt0 : ∀ x ∈ p0, x.block < W.heap.size := by obtain ⟨m, hm⟩ := k0; exact DataW.trod_lt m _ _ _ hm
  obtain ⟨cs0, a0, rfl, K0, w0⟩ := Ho.open_array Try.underlying26 (hval 0 26 v0 rfl rfl) h0 Ho.reads26
  obtain rfl := F.k26_open K0
  have k1 := h1
  have lt1 : ∀ x ∈ p1, x.block < W.heap.size := by obtain ⟨m, hm⟩ := k1; exact DataW.trod_lt m _ _ _ hm
  obtain ⟨A1, l1, c1, rfl, lc1, lm1, rr1, w1⟩ := Ho.open_rows Try.underlying34 (hval 1 34 v1 rfl rfl) h1 Ho.readsI_u16
  have k2 := h2
  have lt2 : ∀ x ∈ p2, x.block < W.heap.size := by obtain ⟨m, hm⟩ := k2; exact DataW.trod_lt m _ _ _ hm
  obtain ⟨A2, l2, c2, rfl, lc2, lm2, rr2, w2⟩ := Ho.open_rows Try.underlying35 (hval 2 35 v2 rfl rfl) h2 Ho.reads26
  have k3 := h3
  have lt3 : ∀ x ∈ p3, x.block < W.heap.size := by obtain ⟨m, hm⟩ := k3; exact DataW.trod_lt m _ _ _ hm
  obtain ⟨A3, l3, c3, rfl, lc3, lm3, rr3, w3⟩ := Ho.open_rows Try.underlying35 (hval 3 35 v3 rfl rfl) h3 Ho.reads26
  clear hA0 hval0 hsz0
  obtain ⟨k, hk⟩ := Pure.NoticeWorse a0 l1 l2 l3 w0 lm1 w1 lm2 w2 lm3 w3
  refine (F.insolvencylaw34_NoticeWorse.calls k a0.f0 a0.f1 a0.f2 _ _ l1 _ _ l2 _ _ l3 true W (show Kd.C _ W A1 l1.length l1 from rr1) lc1 (show Kd.C _ W A2 l2.length l2 from rr2) lc2 (show Kd.C _ W A3 l3.length l3 from rr3) lc3 hk).mono fun e W' ⟨he, bel⟩ => ?_
  subst he
  exact ⟨_, rfl, _, _, _, [], _, [], hW', trodAll_mk1 (shut_bool Try.underlying4 _), (trodAll_cons_mk (Below.trod laidOut (by kernel_rfl) (of_decide_eq_true (by kernel_rfl)) k0 bel lt0) (trodAll_cons_mk (Below.trod laidOut (by kernel_rfl) (of_decide_eq_true (by kernel_rfl)) k1 bel lt1) (trodAll_cons_mk (Below.trod laidOut (by kernel_rfl) (of_decide_eq_true (by kernel_rfl)) k2 bel lt2) (trodAll_cons_mk (Below.trod laidOut (by kernel_rfl) (of_decide_eq_true (by kernel_rfl)) k3 bel lt3) trodAll_mk0)))), rfl, bel.frame _, fun h => by cases h⟩
theorem over : Rows.noticeWorseRow.holds Try.pinned (OpenSpec.ofChange Rows.noticeWorseSpec) :=
  OpenClaim.holds_of_wide 7 Try.f7 rfl rfl rfl rfl rfl rfl rfl ⟨rfl, rfl, rfl, rfl, rfl⟩ rfl rfl rfl rfl rfl (by kernel_rfl) Try.func7 (by kernel_rfl)
    (of_decide_eq_true (by kernel_rfl)) (by unfold Func.isWrapper; first | (rw [if_pos (by decide +kernel)]; kernel_rfl) | (rw [if_neg (by decide +kernel)]; exact ⟨rfl, rfl⟩))
    (fun os started H enc _ => lifted os started H enc)
theorem proved : Rows.NoticeWorseSaid := over
#print axioms proved
end Go.Proofs.Ytjdkfdcaicdenaa.noticeWorse
namespace Go.Proofs.Ytjdkfdcaicdenaa
/-- The row, under a short name, for the claim. -/
theorem noticeWorse_holds : Rows.NoticeWorseSaid := noticeWorse.proved
end Go.Proofs.Ytjdkfdcaicdenaa
