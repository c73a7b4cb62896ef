/- The pure statement of NoticeAlone. Written by a program of this session's. -/
import Derived.Test.YtjdkfdcaicdenaaF9
import Derived.Test.YtjdkfdcaicdenaaGread
namespace Go.Proofs.Ytjdkfdcaicdenaa.F
open Go.RowKit
def insolvencylaw34_NoticeAlone.Pure : Prop := ∀ (a0 : S26) (l1 : List Int) (l2 : List S26) (a3 : Int), Ho.ok26 a0 → l1.length ≤ maxLen → (∀ x ∈ l1, (Lit.int .u16 x).wf = true) → l2.length ≤ maxLen → (∀ x ∈ l2, Ho.ok26 x) → (Lit.int .u8 a3).wf = true → ∃ k, insolvencylaw34_NoticeAlone.f k a0.f0 a0.f1 a0.f2 l1 l2 a3 = some true
end Go.Proofs.Ytjdkfdcaicdenaa.F
