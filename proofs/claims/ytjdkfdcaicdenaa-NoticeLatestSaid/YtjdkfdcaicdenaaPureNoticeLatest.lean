/- NoticeLatest answers true at every input. No condition. -/
import Derived.Test.YtjdkfdcaicdenaaGnoti
import Derived.Test.YtjdkfdcaicdenaaSayNoticeLatest
namespace Go.Proofs.Ytjdkfdcaicdenaa.Pure
open Go.RowKit F Hn Ho Go.Proofs.YtjdkfdcaicdenaaW.PrintWords Go.Proofs.YtjdkfdcaicdenaaW.PrintLast
theorem NoticeLatest : insolvencylaw34_NoticeLatest.Pure := by
  intro a0 a1 a2 _ _ h2
  refine Ev.rounds (g := fun k => insolvencylaw34_NoticeLatest.f k a0.f0 a0.f1 a0.f2 a1.f0 a1.f1 a2.f0 a2.f1 a2.f2) ?_
  unfold insolvencylaw34_NoticeLatest.f
  obtain ⟨e, t, p, hp, _⟩ := post_some a2 h2
  refine ev_then hp (Ev.bind awake_ev (ev_if rfl ?_))
  exact ev_const (by simp [notice_Latest.f, insolvencyref33_Latest.f])
end Go.Proofs.Ytjdkfdcaicdenaa.Pure
