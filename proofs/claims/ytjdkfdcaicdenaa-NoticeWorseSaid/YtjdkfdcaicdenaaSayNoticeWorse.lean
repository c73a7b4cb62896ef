/- The pure statement of NoticeWorse. Written by a program of this session's. -/
import Derived.Test.YtjdkfdcaicdenaaF8
import Derived.Test.YtjdkfdcaicdenaaGread
namespace Go.Proofs.Ytjdkfdcaicdenaa.F
open Go.RowKit
def insolvencylaw34_NoticeWorse.Pure : Prop := ∀ (a0 : S26) (l1 : List Int) (l2 : List S26) (l3 : List S26), Ho.ok26 a0 → l1.length ≤ maxLen → (∀ x ∈ l1, (Lit.int .u16 x).wf = true) → l2.length ≤ maxLen → (∀ x ∈ l2, Ho.ok26 x) → l3.length ≤ maxLen → (∀ x ∈ l3, Ho.ok26 x) → ∃ k, insolvencylaw34_NoticeWorse.f k a0.f0 a0.f1 a0.f2 l1 l2 l3 = some true
end Go.Proofs.Ytjdkfdcaicdenaa.F
