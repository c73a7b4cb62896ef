/- NoticeCheck answers true at every input. No condition. -/
import Derived.Test.YtjdkfdcaicdenaaGnoti
import Derived.Test.YtjdkfdcaicdenaaSayNoticeCheck
namespace Go.Proofs.Ytjdkfdcaicdenaa.Pure
open Go.RowKit F Hn Ho Go.Proofs.YtjdkfdcaicdenaaW.PrintWords Go.Proofs.YtjdkfdcaicdenaaW.PrintLast
theorem NoticeCheck : insolvencylaw34_NoticeCheck.Pure := by
  intro a0 l1 l2 a3 a4 a5 _ _ _ _ _ h3 h4 h5
  refine Ev.rounds (g := fun k => insolvencylaw34_NoticeCheck.f k a0.f0 a0.f1 a0.f2 l1 l2 a3.f0 a3.f1 a3.f2 a4 a5) ?_
  have q4 := wf16 h4
  have q5 := wf16 h5
  have m4 := tm_pos (x := a4) (n := 36) (by omega) (by omega)
  have m5 := tm_pos (x := a5) (n := 300) (by omega) (by omega)
  have w4 : wrap64 (Int.tmod a4 36) = Int.tmod a4 36 := w64 _ (by omega) (by omega)
  have w5 : wrap64 (Int.tmod a5 300) = Int.tmod a5 300 := w64 _ (by omega) (by omega)
  have all : ∀ b : Bool, Ev (fun k => insolvencylaw34_NoticeCheck.j0 k l1 l2 a4 a5 b a0.f0 a0.f1 a0.f2 a3.f0 a3.f1 a3.f2) true := by
    intro b
    refine ev_unfold ?_
    simp only [insolvencylaw34_NoticeCheck.j0, w4, w5]
    cases b with
    | true => exact ev_if rfl (Ev.bind (f := fun _ t => some t) awake_ev (Ev.now _))
    | false =>
      obtain ⟨e, t, p, hp, _⟩ := post_some a3 h3
      refine ev_else (by simp) (ev_then hp (ev_if m4.1 (ev_if (by omega) (ev_then rfl (ev_if m5.1 (ev_if (by omega) (ev_then rfl ?_)))))))
      refine Ev.bind awake_ev (ev_if rfl (Ev.bind (check_ev _ _ _ _ _) (Ev.bind (refCheck_ev _ _ _ _ _) (ev_if rfl ?_))))
      refine Ev.bind (check_ev _ _ _ _ _) (Ev.bind (refCheck_ev _ _ _ _ _) (ev_if rfl ?_))
      refine Ev.bind (check_ev _ _ _ _ _) (Ev.bind (refCheck_ev _ _ _ _ _) ?_)
      exact ev_const (by simp)
  unfold insolvencylaw34_NoticeCheck.f
  by_cases h : (l1.length : Int) > 12
  · exact ev_if h (all _)
  · exact ev_else h (all _)
end Go.Proofs.Ytjdkfdcaicdenaa.Pure
