/- NoticeServe answers true at every input. No condition. -/
import Derived.Test.YtjdkfdcaicdenaaGnoti
import Derived.Test.YtjdkfdcaicdenaaSayNoticeServe
namespace Go.Proofs.Ytjdkfdcaicdenaa.Pure
open Go.RowKit F Hn Ho Go.Proofs.YtjdkfdcaicdenaaW.PrintWords Go.Proofs.YtjdkfdcaicdenaaW.PrintLast
theorem NoticeServe : insolvencylaw34_NoticeServe.Pure := by
  intro a0 l1 l2 l3 a4 h0 h1 h2 _ h3 _ h4 _
  refine Ev.rounds (g := fun k => insolvencylaw34_NoticeServe.f k a0.f0 a0.f1 a0.f2 l1 l2 l3 a4.f0 a4.f1 a4.f2) ?_
  unfold insolvencylaw34_NoticeServe.f
  by_cases h : (l3.length : Int) > 12
  · exact ev_if h (Ev.bind (f := fun _ t => some t) awake_ev (Ev.now _))
  refine ev_else h ?_
  obtain ⟨e, t, p, hp, _⟩ := post_some a0 h0
  have hok : ∀ y ∈ (l2.take 20).map lossOf ++ l3, ok54 y := by
    intro y hy
    rcases List.mem_append.1 hy with h | h
    · exact losses_ok h3 20 y h
    · exact h4 y h
  refine Ev.bind (notices_ev l1 h2) (Ev.bind (losses_ev l2 h3) (ev_if (by simp; omega) (ev_then rfl (ev_then hp ?_))))
  refine Ev.bind (serveAll_ev _ _ _ _ _ hok) (ev_then hp (Ev.bind (refServeAll_ev _ _ _ _ _) (Ev.bind (serveAll_ev _ _ _ _ _ hok) (Ev.bind (refServeAll_ev _ _ _ _ _) ?_))))
  refine Ev.bind awake_ev (ev_if rfl (ev_if rfl (Ev.bind (same_ev _ (served_short _ _ _ _ _)) (ev_if rfl (ev_if rfl ?_)))))
  exact Ev.bind (f := fun _ t => some t) (same_ev _ (served_short _ _ _ _ _)) (Ev.now _)
end Go.Proofs.Ytjdkfdcaicdenaa.Pure
