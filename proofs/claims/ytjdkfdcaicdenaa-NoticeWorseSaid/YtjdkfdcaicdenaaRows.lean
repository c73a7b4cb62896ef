/-
  No cell of these rows narrows 'for every input' (looked for: loops, veiled, ifaces, maps, wideKeys, modest, calm, conditions, laid).
  DERIVED. THE GIVEN ROWS OF THIS SEAT. 6 by the template 'for every input the law returns true; each argument reads behind the call as it read before'; 0 by the template 'total and deterministic' (their statements: YtjdkfdcaicdenaaTotals.lean).
  GIVEN WITH THE SEED: the statements are not yours to turn. If you find one false, say at which input.
  Laid BY PROGRAM, IN A SANDBOX (cutbox-rows.mjs): the forced cells as the released guide's own fill.sh prints them over the translation 59a087c04cc78c76… (all of the seat's roots in one cut). By AI agents, Wed Nov 11 2026. No macro, syntax, notation, axiom, sorry.
-/
import Derived.Test.YtjdkfdcaicdenaaChecked
import GoSem.Claim
import GoSem.ClaimJoined
import GoSem.ClaimMapViews
import Derived.JoinedTies
import Derived.KernelRfl
namespace Go.Proofs.Ytjdkfdcaicdenaa
/- THE CELL 'sum', in the pinned program and in every row, IS THE sha256 OF THE DUMP (.gsa) THAT YtjdkfdcaicdenaaProg.lean LOADS. Nothing in Lean hashes anything: it is a label: what it is worth is what the hold of that sum in a sandbox is worth. -/
noncomputable def Try.pinned : Pinned := { name := "ytjdkfdcaicdenaa", sum := "59a087c04cc78c76c624183bbba7045cf5fc587a9fea652dfe20e6bb39e2daf9", checked := Try.checked }
namespace Rows
def none {H : Type} : Left H := { results := [], args := [] }

/-- 'insolvencylaw34.NoticeCheck': WHATEVER THE INPUT: true; the input reads as it did. -/
def noticeCheckSpec : ChangeSpec := { name := "noticeCheck", fn := fun _ => fun
  | [d1, d2, d3, d4, d5, d6] => { results := [.lit (.bool true)], args := [d1, d2, d3, d4, d5, d6] }
  | _ => none }
def noticeCheckRow : OpenClaim := { program := "ytjdkfdcaicdenaa", sum := "59a087c04cc78c76c624183bbba7045cf5fc587a9fea652dfe20e6bb39e2daf9", func := "insolvency/insolvencylaw34.NoticeCheck", spec := "noticeCheck", plainKeys := false, apart := false }
def NoticeCheckSaid : Prop := noticeCheckRow.holds Try.pinned (OpenSpec.ofChange noticeCheckSpec)

/-- ITS FALSE NEIGHBOUR: 'it returns false'. Refute it at one input. -/
def noticeCheckWrong : ChangeSpec := { name := "noticeCheck", fn := fun _ => fun
  | [d1, d2, d3, d4, d5, d6] => { results := [.lit (.bool false)], args := [d1, d2, d3, d4, d5, d6] }
  | _ => none }
def NoticeCheckWrongFalsely : Prop := noticeCheckRow.holds Try.pinned (OpenSpec.ofChange noticeCheckWrong)

/-- 'insolvencylaw34.NoticeServe': WHATEVER THE INPUT: true; the input reads as it did. -/
def noticeServeSpec : ChangeSpec := { name := "noticeServe", fn := fun _ => fun
  | [d1, d2, d3, d4, d5] => { results := [.lit (.bool true)], args := [d1, d2, d3, d4, d5] }
  | _ => none }
def noticeServeRow : OpenClaim := { program := "ytjdkfdcaicdenaa", sum := "59a087c04cc78c76c624183bbba7045cf5fc587a9fea652dfe20e6bb39e2daf9", func := "insolvency/insolvencylaw34.NoticeServe", spec := "noticeServe", plainKeys := false, apart := false }
def NoticeServeSaid : Prop := noticeServeRow.holds Try.pinned (OpenSpec.ofChange noticeServeSpec)

/-- ITS FALSE NEIGHBOUR: 'it returns false'. Refute it at one input. -/
def noticeServeWrong : ChangeSpec := { name := "noticeServe", fn := fun _ => fun
  | [d1, d2, d3, d4, d5] => { results := [.lit (.bool false)], args := [d1, d2, d3, d4, d5] }
  | _ => none }
def NoticeServeWrongFalsely : Prop := noticeServeRow.holds Try.pinned (OpenSpec.ofChange noticeServeWrong)

/-- 'insolvencylaw34.NoticeLatest': WHATEVER THE INPUT: true; the input reads as it did. -/
def noticeLatestSpec : ChangeSpec := { name := "noticeLatest", fn := fun _ => fun
  | [d1, d2, d3] => { results := [.lit (.bool true)], args := [d1, d2, d3] }
  | _ => none }
def noticeLatestRow : OpenClaim := { program := "ytjdkfdcaicdenaa", sum := "59a087c04cc78c76c624183bbba7045cf5fc587a9fea652dfe20e6bb39e2daf9", func := "insolvency/insolvencylaw34.NoticeLatest", spec := "noticeLatest", plainKeys := false, apart := false }
def NoticeLatestSaid : Prop := noticeLatestRow.holds Try.pinned (OpenSpec.ofChange noticeLatestSpec)

/-- ITS FALSE NEIGHBOUR: 'it returns false'. Refute it at one input. -/
def noticeLatestWrong : ChangeSpec := { name := "noticeLatest", fn := fun _ => fun
  | [d1, d2, d3] => { results := [.lit (.bool false)], args := [d1, d2, d3] }
  | _ => none }
def NoticeLatestWrongFalsely : Prop := noticeLatestRow.holds Try.pinned (OpenSpec.ofChange noticeLatestWrong)

/-- 'insolvencylaw34.NoticeBounds': WHATEVER THE INPUT: true; the input reads as it did. -/
def noticeBoundsSpec : ChangeSpec := { name := "noticeBounds", fn := fun _ => fun
  | [d1, d2, d3] => { results := [.lit (.bool true)], args := [d1, d2, d3] }
  | _ => none }
def noticeBoundsRow : OpenClaim := { program := "ytjdkfdcaicdenaa", sum := "59a087c04cc78c76c624183bbba7045cf5fc587a9fea652dfe20e6bb39e2daf9", func := "insolvency/insolvencylaw34.NoticeBounds", spec := "noticeBounds", plainKeys := false, apart := false }
def NoticeBoundsSaid : Prop := noticeBoundsRow.holds Try.pinned (OpenSpec.ofChange noticeBoundsSpec)

/-- ITS FALSE NEIGHBOUR: 'it returns false'. Refute it at one input. -/
def noticeBoundsWrong : ChangeSpec := { name := "noticeBounds", fn := fun _ => fun
  | [d1, d2, d3] => { results := [.lit (.bool false)], args := [d1, d2, d3] }
  | _ => none }
def NoticeBoundsWrongFalsely : Prop := noticeBoundsRow.holds Try.pinned (OpenSpec.ofChange noticeBoundsWrong)

/-- 'insolvencylaw34.NoticeWorse': WHATEVER THE INPUT: true; the input reads as it did. -/
def noticeWorseSpec : ChangeSpec := { name := "noticeWorse", fn := fun _ => fun
  | [d1, d2, d3, d4] => { results := [.lit (.bool true)], args := [d1, d2, d3, d4] }
  | _ => none }
def noticeWorseRow : OpenClaim := { program := "ytjdkfdcaicdenaa", sum := "59a087c04cc78c76c624183bbba7045cf5fc587a9fea652dfe20e6bb39e2daf9", func := "insolvency/insolvencylaw34.NoticeWorse", spec := "noticeWorse", plainKeys := false, apart := false }
def NoticeWorseSaid : Prop := noticeWorseRow.holds Try.pinned (OpenSpec.ofChange noticeWorseSpec)

/-- ITS FALSE NEIGHBOUR: 'it returns false'. Refute it at one input. -/
def noticeWorseWrong : ChangeSpec := { name := "noticeWorse", fn := fun _ => fun
  | [d1, d2, d3, d4] => { results := [.lit (.bool false)], args := [d1, d2, d3, d4] }
  | _ => none }
def NoticeWorseWrongFalsely : Prop := noticeWorseRow.holds Try.pinned (OpenSpec.ofChange noticeWorseWrong)

/-- 'insolvencylaw34.NoticeAlone': WHATEVER THE INPUT: true; the input reads as it did. -/
def noticeAloneSpec : ChangeSpec := { name := "noticeAlone", fn := fun _ => fun
  | [d1, d2, d3, d4] => { results := [.lit (.bool true)], args := [d1, d2, d3, d4] }
  | _ => none }
def noticeAloneRow : OpenClaim := { program := "ytjdkfdcaicdenaa", sum := "59a087c04cc78c76c624183bbba7045cf5fc587a9fea652dfe20e6bb39e2daf9", func := "insolvency/insolvencylaw34.NoticeAlone", spec := "noticeAlone", plainKeys := false, apart := false }
def NoticeAloneSaid : Prop := noticeAloneRow.holds Try.pinned (OpenSpec.ofChange noticeAloneSpec)

/-- ITS FALSE NEIGHBOUR: 'it returns false'. Refute it at one input. -/
def noticeAloneWrong : ChangeSpec := { name := "noticeAlone", fn := fun _ => fun
  | [d1, d2, d3, d4] => { results := [.lit (.bool false)], args := [d1, d2, d3, d4] }
  | _ => none }
def NoticeAloneWrongFalsely : Prop := noticeAloneRow.holds Try.pinned (OpenSpec.ofChange noticeAloneWrong)

/- THE SECOND FORM. 'bulk': how many values and letters a reading holds, each counted each time it is reached (what is shared counts as often as it is met; a slice's spare places count too). A statement '..UptoSaid' is the law's where the arguments, and the package variables that the reading takes, are together of bulk at most 1048576: NARROWER than '..Said'. Prove '..Said' where nothing that the law and all that it calls make is longer than what came in: it says more and counts as full. Else prove '..UptoSaid'. A law counts once. -/
mutual
def uptoBulk {H : Type} : DataW H → Nat
  | .lit (.string bytes) => bytes.length + 1
  | .lit _ => 1
  | .nil => 1
  | .ptr d => uptoBulk d + 1
  | .slice elems spare => uptoBulkAll elems + uptoBulkAll spare + 1
  | .agg parts => uptoBulkAll parts + 1
  | .iface _ d => uptoBulk d + 1
  | .map entries => uptoBulkEntries entries + 1
  | .held _ => 1
def uptoBulkAll {H : Type} : List (DataW H) → Nat
  | [] => 0
  | d :: r => uptoBulk d + uptoBulkAll r
def uptoBulkEntries {H : Type} : List (Lit × DataW H) → Nat
  | [] => 0
  | x :: r => uptoBulkEntry x + uptoBulkEntries r
def uptoBulkEntry {H : Type} : Lit × DataW H → Nat
  | (.string bytes, d) => bytes.length + uptoBulk d + 1
  | (_, d) => uptoBulk d + 1
 end
def uptoSmall : (H : Type) → List (DataW H) → Bool := fun _ ds => decide (uptoBulkAll ds ≤ 1048576)
def OpenSpec.upto (s : _root_.Go.ChangeSpec) : _root_.Go.OpenSpec := { _root_.Go.OpenSpec.ofChange s with cond := some uptoSmall }

/-- 'insolvencylaw34.NoticeCheck', WHERE WHAT IT READS IS OF BULK AT MOST 1048576: true; the input reads as it did. -/
def noticeCheckUptoRow : OpenClaim := { program := "ytjdkfdcaicdenaa", sum := "59a087c04cc78c76c624183bbba7045cf5fc587a9fea652dfe20e6bb39e2daf9", func := "insolvency/insolvencylaw34.NoticeCheck", spec := "noticeCheck", plainKeys := false, apart := false, narrowed := true }
def NoticeCheckUptoSaid : Prop := noticeCheckUptoRow.holds Try.pinned (OpenSpec.upto noticeCheckSpec)

/-- 'insolvencylaw34.NoticeServe', WHERE WHAT IT READS IS OF BULK AT MOST 1048576: true; the input reads as it did. -/
def noticeServeUptoRow : OpenClaim := { program := "ytjdkfdcaicdenaa", sum := "59a087c04cc78c76c624183bbba7045cf5fc587a9fea652dfe20e6bb39e2daf9", func := "insolvency/insolvencylaw34.NoticeServe", spec := "noticeServe", plainKeys := false, apart := false, narrowed := true }
def NoticeServeUptoSaid : Prop := noticeServeUptoRow.holds Try.pinned (OpenSpec.upto noticeServeSpec)

/-- 'insolvencylaw34.NoticeLatest', WHERE WHAT IT READS IS OF BULK AT MOST 1048576: true; the input reads as it did. -/
def noticeLatestUptoRow : OpenClaim := { program := "ytjdkfdcaicdenaa", sum := "59a087c04cc78c76c624183bbba7045cf5fc587a9fea652dfe20e6bb39e2daf9", func := "insolvency/insolvencylaw34.NoticeLatest", spec := "noticeLatest", plainKeys := false, apart := false, narrowed := true }
def NoticeLatestUptoSaid : Prop := noticeLatestUptoRow.holds Try.pinned (OpenSpec.upto noticeLatestSpec)

/-- 'insolvencylaw34.NoticeBounds', WHERE WHAT IT READS IS OF BULK AT MOST 1048576: true; the input reads as it did. -/
def noticeBoundsUptoRow : OpenClaim := { program := "ytjdkfdcaicdenaa", sum := "59a087c04cc78c76c624183bbba7045cf5fc587a9fea652dfe20e6bb39e2daf9", func := "insolvency/insolvencylaw34.NoticeBounds", spec := "noticeBounds", plainKeys := false, apart := false, narrowed := true }
def NoticeBoundsUptoSaid : Prop := noticeBoundsUptoRow.holds Try.pinned (OpenSpec.upto noticeBoundsSpec)

/-- 'insolvencylaw34.NoticeWorse', WHERE WHAT IT READS IS OF BULK AT MOST 1048576: true; the input reads as it did. -/
def noticeWorseUptoRow : OpenClaim := { program := "ytjdkfdcaicdenaa", sum := "59a087c04cc78c76c624183bbba7045cf5fc587a9fea652dfe20e6bb39e2daf9", func := "insolvency/insolvencylaw34.NoticeWorse", spec := "noticeWorse", plainKeys := false, apart := false, narrowed := true }
def NoticeWorseUptoSaid : Prop := noticeWorseUptoRow.holds Try.pinned (OpenSpec.upto noticeWorseSpec)

/-- 'insolvencylaw34.NoticeAlone', WHERE WHAT IT READS IS OF BULK AT MOST 1048576: true; the input reads as it did. -/
def noticeAloneUptoRow : OpenClaim := { program := "ytjdkfdcaicdenaa", sum := "59a087c04cc78c76c624183bbba7045cf5fc587a9fea652dfe20e6bb39e2daf9", func := "insolvency/insolvencylaw34.NoticeAlone", spec := "noticeAlone", plainKeys := false, apart := false, narrowed := true }
def NoticeAloneUptoSaid : Prop := noticeAloneUptoRow.holds Try.pinned (OpenSpec.upto noticeAloneSpec)

end Rows
end Go.Proofs.Ytjdkfdcaicdenaa
