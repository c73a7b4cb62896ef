/- The pure statement of NoticeDeadlines. Written by a program of this session's. -/
import Derived.Test.YtmlhckcnpfokaaaD3
import Derived.Test.YtmlhckcnpfokaaaGread
namespace Go.Proofs.Ytmlhckcnpfokaaa.D
open Go.RowKit
def insolvencylaw34_NoticeDeadlines.Pure : Prop := ∀ (l0 : List S45) (l1 : List Int) (a2 : Int) (l3 : List Int) (l4 : List Int), l0.length ≤ maxLen → (∀ x ∈ l0, Ho.ok45 x) → l1.length ≤ maxLen → (∀ x ∈ l1, (Lit.int .u8 x).wf = true) → (Lit.int .i8 a2).wf = true → l3.length ≤ maxLen → (∀ x ∈ l3, (Lit.int .u16 x).wf = true) → l4.length ≤ maxLen → (∀ x ∈ l4, (Lit.int .i64 x).wf = true) → ∃ k, insolvencylaw34_NoticeDeadlines.f k l0 l1 a2 l3 l4 = some true
end Go.Proofs.Ytmlhckcnpfokaaa.D
