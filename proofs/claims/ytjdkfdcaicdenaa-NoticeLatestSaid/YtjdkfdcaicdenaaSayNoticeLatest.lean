/- The pure statement of NoticeLatest. Written by a program of this session's. -/
import Derived.Test.YtjdkfdcaicdenaaF6
import Derived.Test.YtjdkfdcaicdenaaGread
namespace Go.Proofs.Ytjdkfdcaicdenaa.F
open Go.RowKit
def insolvencylaw34_NoticeLatest.Pure : Prop := ∀ (a0 : S23) (a1 : S46) (a2 : S26), Ho.ok23 a0 → Ho.ok46 a1 → Ho.ok26 a2 → ∃ k, insolvencylaw34_NoticeLatest.f k a0.f0 a0.f1 a0.f2 a1.f0 a1.f1 a2.f0 a2.f1 a2.f2 = some true
end Go.Proofs.Ytjdkfdcaicdenaa.F
