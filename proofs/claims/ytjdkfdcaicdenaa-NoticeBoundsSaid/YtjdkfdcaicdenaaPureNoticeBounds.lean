/- NoticeBounds answers true at every input. No condition. -/
import Derived.Test.YtjdkfdcaicdenaaGnoti
import Derived.Test.YtjdkfdcaicdenaaSayNoticeBounds
namespace Go.Proofs.Ytjdkfdcaicdenaa.Pure
open Go.RowKit F Hn Ho Go.Proofs.YtjdkfdcaicdenaaW.PrintWords Go.Proofs.YtjdkfdcaicdenaaW.PrintLast

theorem latest_at {e tr pu d : Int} (he : 1 ≤ e ∧ e ≤ 6) (ht : 1 ≤ tr ∧ tr ≤ 4) (hp : 0 ≤ pu ∧ pu < 20) (hd : 0 ≤ d ∧ d < 50) : latest e tr pu d = d + e * (tr - 1) + pu ∧ 0 ≤ e * (tr - 1) := by
  have h1 : 0 ≤ e * (tr - 1) := Int.mul_nonneg (by omega) (by omega)
  have h2 : e * (tr - 1) ≤ 6 * (tr - 1) := Int.mul_le_mul_of_nonneg_right he.2 (by omega)
  unfold latest
  rw [w64 (tr - 1) (by omega) (by omega), w64 (e * (tr - 1)) (by omega) (by omega), w64 (d + e * (tr - 1)) (by omega) (by omega), w64 _ (by omega) (by omega)]
  exact ⟨rfl, h1⟩

theorem bounds_of (lost : List Ls) {e tr pu d i : Int} (he : 1 ≤ e ∧ e ≤ 6) (ht : 1 ≤ tr ∧ tr ≤ 4) (hp : 0 ≤ pu ∧ pu < 20) (hd : 0 ≤ d ∧ d < 50) :
    ∀ (n : Nat) (t day recv : Int), t + n = tr → 0 ≤ t → 0 ≤ recv → recv ≤ t → (n = 0 → 1 ≤ t) → (0 < recv → d ≤ day ∧ day ≤ d + e * (tr - 1)) →
      d ≤ (srvL lost e tr pu d i n t day recv).f0 ∧ (srvL lost e tr pu d i n t day recv).f0 ≤ latest e tr pu d ∧ 1 ≤ (srvL lost e tr pu d i n t day recv).f1 ∧ (srvL lost e tr pu d i n t day recv).f1 ≤ tr ∧
      (srvL lost e tr pu d i n t day recv).f2 ≤ (srvL lost e tr pu d i n t day recv).f1 ∧ ((srvL lost e tr pu d i n t day recv).f3 = true → (srvL lost e tr pu d i n t day recv).f2 ≠ 0) := by
  obtain ⟨hl, hl0⟩ := latest_at he ht hp hd
  intro n
  induction n with
  | zero =>
    intro t day recv h1 h2 h3 h4 h5 h6
    unfold srvL
    have := h5 rfl
    refine ⟨?_, ?_, ?_, ?_, ?_, ?_⟩
    · show d ≤ latest e tr pu d; omega
    · exact Int.le_refl _
    · exact this
    · show t ≤ tr; omega
    · exact h4
    · intro h; cases h
  | succ n ih =>
    intro t day recv h1 h2 h3 h4 h5 h6
    have h7 : 0 ≤ e * t := Int.mul_nonneg (by omega) h2
    have h8 : e * t ≤ e * (tr - 1) := Int.mul_le_mul_of_nonneg_left (by omega) (by omega)
    have h9 : d ≤ (if recv = 0 then d + e * t else day) ∧ (if recv = 0 then d + e * t else day) ≤ d + e * (tr - 1) := by
      split
      · omega
      · exact h6 (by omega)
    unfold srvL
    split
    · exact ih (t + 1) day recv (by omega) (by omega) h3 (by omega) (by omega) h6
    · split
      · exact ih (t + 1) _ (recv + 1) (by omega) (by omega) (by omega) (by omega) (by omega) (fun _ => h9)
      · refine ⟨h9.1, ?_, ?_, ?_, ?_, ?_⟩
        · show (if recv = 0 then d + e * t else day) ≤ latest e tr pu d; omega
        · show 1 ≤ t + 1; omega
        · show t + 1 ≤ tr; omega
        · show recv + 1 ≤ t + 1; omega
        · intro _; show recv + 1 ≠ 0; omega

theorem srv_none {e tr pu d i : Int} (ht : 1 ≤ tr) : srv [] e tr pu d i = ⟨d, 1, 1, true⟩ := by
  unfold srv
  obtain ⟨m, hm⟩ : ∃ m, tr.toNat = m + 1 := ⟨tr.toNat - 1, by omega⟩
  rw [hm]
  unfold srvL
  rw [if_neg (by simp [lostAt]), if_neg (by simp [lostAt])]
  simp

theorem NoticeBounds : insolvencylaw34_NoticeBounds.Pure := by
  intro a0 l1 l2 h0 h1 h2 _ h3
  refine Ev.rounds (g := fun k => insolvencylaw34_NoticeBounds.f k a0.f0 a0.f1 a0.f2 l1 l2) ?_
  unfold insolvencylaw34_NoticeBounds.f
  obtain ⟨e, t, p, hp, hg, e1, e2, t1, t2, p1, p2⟩ := post_some a0 h0
  have hn := notices_good h2
  have hok := losses_ok h3 20
  have c1 : chk e t p ((l1.take 6).map noticeOf) ((l2.take 20).map lossOf) = 0 := chk_good hg (by simp; omega) (by simp; omega) hn
  have c2 : chk e t p ((l1.take 6).map noticeOf) [] = 0 := chk_good hg (by simp; omega) (by simp) hn
  have hlen : ((l1.take 6).map noticeOf).length ≤ 6 := by simp; omega
  refine ev_then hp (Ev.bind (notices_ev l1 h2) (Ev.bind (losses_ev l2 h3) (Ev.bind (serveAll_ev _ _ _ _ _ hok) (Ev.bind (serveAll_ev _ _ _ _ _ (by simp)) ?_))))
  generalize (l1.take 6).map noticeOf = ns at *
  generalize (l2.take 20).map lossOf = lost at *
  dsimp only
  rw [served_ok c1, served_ok c2]
  refine ev_if rfl (ev_if rfl (ev_if (by simp [srvs_length]) ?_))
  refine ev_unfold ?_
  simp only [insolvencylaw34_NoticeBounds.j0]
  refine ev_else (by simp [srvs_length]) ?_
  have key : ∀ (n i : Nat), i ≤ ns.length → ns.length - i = n → Ev (fun k => insolvencylaw34_NoticeBounds.l0 k ns (srvs lost e t p ns 0) (srvs [] e t p ns 0) (i : Int) e t p) true := by
    intro n
    induction n with
    | zero =>
      intro i hi hn'
      refine ev_unfold ?_
      simp only [insolvencylaw34_NoticeBounds.l0]
      exact ev_else (by omega) (Ev.bind (f := fun _ t => some t) awake_ev (Ev.now _))
    | succ n ih =>
      intro i hi hn'
      have hlt : i < ns.length := by omega
      have hz := hn ns[i] (List.getElem_mem hlt)
      have ra : rd_T50 (srvs lost e t p ns 0) (i : Int) = srv lost e t p ns[i].f1 ((0 + i : Nat) : Int) := by rw [rdS _ _ (by rw [srvs_length]; exact hlt), srvs_get _ _ _ _ _ _ _ _ hlt]
      have rb : rd_T50 (srvs [] e t p ns 0) (i : Int) = ⟨ns[i].f1, 1, 1, true⟩ := by rw [rdS _ _ (by rw [srvs_length]; exact hlt), srvs_get _ _ _ _ _ _ _ _ hlt, srv_none t1]
      have bd := bounds_of lost (i := ((0 + i : Nat) : Int)) ⟨e1, e2⟩ ⟨t1, t2⟩ ⟨p1, p2⟩ hz.2 t.toNat 0 0 0 (by omega) (by omega) (by omega) (by omega) (by omega) (fun h => absurd h (by omega))
      have hla : notice_Latest.f e t p ns[i].f0 ns[i].f1 = some (latest e t p ns[i].f1) := rfl
      refine ev_unfold ?_
      simp only [insolvencylaw34_NoticeBounds.l0, ra, rb, rdN ns i hlt]
      unfold srv
      refine ev_if (by omega) (ev_if (by omega) (ev_if (by rw [srvs_length]; omega) (ev_else (by omega) (ev_then hla (ev_else (by omega) (ev_else (by omega) (ev_else (by omega) (ev_else (by omega) ?_))))))))
      have nx : Ev (fun k => insolvencylaw34_NoticeBounds.l0 k ns (srvs lost e t p ns 0) (srvs [] e t p ns 0) (wrap64 ((i : Int) + 1)) e t p) true := by
        rw [w64n _ (by omega)]
        exact ih (i + 1) (by omega) (by omega)
      have hs : ((i : Int) < ((srvs [] e t p ns 0).length : Int)) := by rw [srvs_length]; omega
      by_cases c : (srvL lost e t p ns[i].f1 ((0 + i : Nat) : Int) t.toNat 0 0 0).f3 = true
      · refine ev_if c (ev_else (bd.2.2.2.2.2 c) (ev_if hs (ev_else (by simp) nx)))
      · exact ev_else c (ev_if hs (ev_else (by simp) nx))
  simpa using key ns.length 0 (by omega) (by omega)
end Go.Proofs.Ytjdkfdcaicdenaa.Pure
