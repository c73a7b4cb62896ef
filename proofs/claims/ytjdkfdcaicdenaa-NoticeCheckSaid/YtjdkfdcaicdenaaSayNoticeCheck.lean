/- The pure statement of NoticeCheck. Written by a program of this session's. -/
import Derived.Test.YtjdkfdcaicdenaaF3
import Derived.Test.YtjdkfdcaicdenaaGread
namespace Go.Proofs.Ytjdkfdcaicdenaa.F
open Go.RowKit
def insolvencylaw34_NoticeCheck.Pure : Prop := ∀ (a0 : S23) (l1 : List S46) (l2 : List S54) (a3 : S26) (a4 : Int) (a5 : Int), Ho.ok23 a0 → l1.length ≤ maxLen → (∀ x ∈ l1, Ho.ok46 x) → l2.length ≤ maxLen → (∀ x ∈ l2, Ho.ok54 x) → Ho.ok26 a3 → (Lit.int .u16 a4).wf = true → (Lit.int .u16 a5).wf = true → ∃ k, insolvencylaw34_NoticeCheck.f k a0.f0 a0.f1 a0.f2 l1 l2 a3.f0 a3.f1 a3.f2 a4 a5 = some true
end Go.Proofs.Ytjdkfdcaicdenaa.F
