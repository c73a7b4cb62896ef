/- NoticeWorse answers true at every input. No condition. -/
import Derived.Test.YtjdkfdcaicdenaaGnoti
import Derived.Test.YtjdkfdcaicdenaaSayNoticeWorse
namespace Go.Proofs.Ytjdkfdcaicdenaa.Pure
open Go.RowKit F Hn Ho Go.Proofs.YtjdkfdcaicdenaaW.PrintWords Go.Proofs.YtjdkfdcaicdenaaW.PrintLast

theorem latestW {e tr pu d : Int} (he : 1 ≤ e ∧ e ≤ 6) (ht : 1 ≤ tr ∧ tr ≤ 4) (hp : 0 ≤ pu ∧ pu < 20) (hd : 0 ≤ d ∧ d < 50) : latest e tr pu d = d + e * (tr - 1) + pu ∧ 0 ≤ e * (tr - 1) := by
  have h1 : 0 ≤ e * (tr - 1) := Int.mul_nonneg (by omega) (by omega)
  have h2 : e * (tr - 1) ≤ 6 * (tr - 1) := Int.mul_le_mul_of_nonneg_right he.2 (by omega)
  unfold latest
  rw [w64 (tr - 1) (by omega) (by omega), w64 (e * (tr - 1)) (by omega) (by omega), w64 (d + e * (tr - 1)) (by omega) (by omega), w64 _ (by omega) (by omega)]
  exact ⟨rfl, h1⟩

/-- The later end, while one has yet to hear: no earlier than D. -/
theorem late_of (lost : List Ls) {e tr pu d i D T : Int} (he : 1 ≤ e) (hD : D ≤ latest e tr pu d) :
    ∀ (n : Nat) (t day recv : Int), t + n = tr → 0 ≤ t → 0 ≤ recv → T ≤ t + (if n = 0 then 0 else 1) → (recv = 0 → D ≤ d + e * t) → (0 < recv → D ≤ day) → D ≤ (srvL lost e tr pu d i n t day recv).f0 ∧ T ≤ (srvL lost e tr pu d i n t day recv).f1 := by
  intro n
  induction n with
  | zero =>
    intro t day recv h1 h2 h3 h4 h5 h6
    unfold srvL
    exact ⟨hD, by simpa using h4⟩
  | succ n ih =>
    intro t day recv h1 h2 h3 h4 h5 h6
    have h7 : D ≤ (if recv = 0 then d + e * t else day) := by
      split
      · rename_i h; exact h5 h
      · exact h6 (by omega)
    have hmul : e * (t + 1) = e * t + e := by rw [Int.mul_add, Int.mul_one]
    have h4' : T ≤ t + 1 := by simpa using h4
    unfold srvL
    split
    · exact ih (t + 1) day recv (by omega) (by omega) h3 (by split <;> omega) (fun h => by have := h5 h; omega) h6
    · split
      · exact ih (t + 1) _ (recv + 1) (by omega) (by omega) (by omega) (by split <;> omega) (fun h => absurd h (by omega)) (fun _ => h7)
      · exact ⟨h7, h4'⟩

theorem worse_of (some' all : List Ls) (sub : ∀ x ∈ some', x ∈ all) {e tr pu d i : Int} (he : 1 ≤ e) (hlat : latest e tr pu d = d + e * (tr - 1) + pu) (hpu : 0 ≤ pu) :
    ∀ (n : Nat) (t dayA recvA dayB recvB : Int), t + n = tr → 0 ≤ t → 0 ≤ recvA → 0 ≤ recvB → (0 < recvB → 0 < recvA ∧ dayA ≤ dayB) → (0 < recvA → dayA ≤ d + e * t) →
      (srvL some' e tr pu d i n t dayA recvA).f0 ≤ (srvL all e tr pu d i n t dayB recvB).f0 ∧ (srvL some' e tr pu d i n t dayA recvA).f1 ≤ (srvL all e tr pu d i n t dayB recvB).f1 ∧
      ((srvL all e tr pu d i n t dayB recvB).f3 = true → (srvL some' e tr pu d i n t dayA recvA).f3 = true) := by
  have mono : ∀ t b, lostAt some' i t b = true → lostAt all i t b = true := by
    intro t b h
    obtain ⟨x, hx, hx'⟩ := List.any_eq_true.1 h
    exact List.any_eq_true.2 ⟨x, sub x hx, hx'⟩
  intro n
  induction n with
  | zero =>
    intro t dayA recvA dayB recvB h1 h2 h3 h4 h5 h6
    unfold srvL
    exact ⟨Int.le_refl _, Int.le_refl _, fun h => h⟩
  | succ n ih =>
    intro t dayA recvA dayB recvB h1 h2 h3 h4 h5 h6
    have hmul : e * (t + 1) = e * t + e := by rw [Int.mul_add, Int.mul_one]
    have hA : (if recvA = 0 then d + e * t else dayA) ≤ d + e * t := by
      split
      · exact Int.le_refl _
      · exact h6 (by omega)
    have hAB : (if recvA = 0 then d + e * t else dayA) ≤ (if recvB = 0 then d + e * t else dayB) := by
      by_cases hb : recvB = 0
      · rw [if_pos hb]; exact hA
      · have := h5 (by omega)
        rw [if_neg hb, if_neg (by omega)]
        exact this.2
    have hlate : (if recvA = 0 then d + e * t else dayA) ≤ latest e tr pu d := by
      have h8 : e * t ≤ e * (tr - 1) := Int.mul_le_mul_of_nonneg_left (by omega) (by omega)
      omega
    by_cases a1 : lostAt some' i t false = true
    · have b1 := mono t false a1
      have ea : srvL some' e tr pu d i (n + 1) t dayA recvA = srvL some' e tr pu d i n (t + 1) dayA recvA := by rw [srvL, if_pos a1]
      have eb : srvL all e tr pu d i (n + 1) t dayB recvB = srvL all e tr pu d i n (t + 1) dayB recvB := by rw [srvL, if_pos b1]
      rw [ea, eb]
      exact ih (t + 1) dayA recvA dayB recvB (by omega) (by omega) h3 h4 h5 (fun h => by have := h6 h; omega)
    · by_cases a2 : lostAt some' i t true = true
      · have ea : srvL some' e tr pu d i (n + 1) t dayA recvA = srvL some' e tr pu d i n (t + 1) (if recvA = 0 then d + e * t else dayA) (recvA + 1) := by rw [srvL, if_neg a1, if_pos a2]
        rw [ea]
        by_cases b1 : lostAt all i t false = true
        · have eb : srvL all e tr pu d i (n + 1) t dayB recvB = srvL all e tr pu d i n (t + 1) dayB recvB := by rw [srvL, if_pos b1]
          rw [eb]
          refine ih (t + 1) _ (recvA + 1) dayB recvB (by omega) (by omega) (by omega) h4 (fun h => ⟨by omega, ?_⟩) (fun _ => by omega)
          have := h5 h
          rw [if_neg (by omega)]
          exact this.2
        · have b2 := mono t true a2
          have eb : srvL all e tr pu d i (n + 1) t dayB recvB = srvL all e tr pu d i n (t + 1) (if recvB = 0 then d + e * t else dayB) (recvB + 1) := by rw [srvL, if_neg b1, if_pos b2]
          rw [eb]
          exact ih (t + 1) _ (recvA + 1) _ (recvB + 1) (by omega) (by omega) (by omega) (by omega) (fun _ => ⟨by omega, hAB⟩) (fun _ => by omega)
      · have ea : srvL some' e tr pu d i (n + 1) t dayA recvA = ⟨if recvA = 0 then d + e * t else dayA, t + 1, recvA + 1, true⟩ := by rw [srvL, if_neg a1, if_neg a2]
        rw [ea]
        have hl := late_of all (i := i) (T := t + 1) he hlate (n + 1) t dayB recvB h1 h2 h4 (by simp) (fun _ => hA) (fun h => by
          have := h5 h
          rw [if_neg (by omega)]
          exact this.2)
        exact ⟨hl.1, hl.2, fun _ => rfl⟩

theorem NoticeWorse : insolvencylaw34_NoticeWorse.Pure := by
  intro a0 l1 l2 l3 h0 h1 h2 _ h3 _ h4
  refine Ev.rounds (g := fun k => insolvencylaw34_NoticeWorse.f k a0.f0 a0.f1 a0.f2 l1 l2 l3) ?_
  unfold insolvencylaw34_NoticeWorse.f
  obtain ⟨e, t, p, hp, hg, e1, e2, t1, t2, p1, p2⟩ := post_some a0 h0
  have hn := notices_good h2
  have ok2 := losses_ok h3 20
  have ok3 := losses_ok h4 20
  have hlen : ((l1.take 6).map noticeOf).length ≤ 6 := by simp; omega
  have len2 : ((l2.take 20).map lossOf).length ≤ 20 := by simp; omega
  have len3 : ((l3.take 20).map lossOf).length ≤ 20 := by simp; omega
  refine ev_then hp (Ev.bind (notices_ev l1 h2) (Ev.bind (losses_ev l2 h3) (ev_then rfl (ev_if (by simp; omega) (ev_then rfl (Ev.bind (losses_ev l3 h4) (ev_if (by simp; omega) ?_)))))))
  generalize (l1.take 6).map noticeOf = ns at *
  generalize (l2.take 20).map lossOf = la at *
  generalize (l3.take 20).map lossOf = lb at *
  have hok : ∀ y ∈ [] ++ la ++ lb, ok54 y := by
    intro y hy
    rw [List.nil_append] at hy
    rcases List.mem_append.1 hy with h | h
    · exact ok2 y h
    · exact ok3 y h
  refine Ev.bind (serveAll_ev _ _ _ _ _ ok2) (Ev.bind (serveAll_ev _ _ _ _ _ hok) ?_)
  have c1 : chk e t p ns la = 0 := chk_good hg (by omega) (by omega) hn
  have c2 : chk e t p ns ([] ++ la ++ lb) = 0 := chk_good hg (by omega) (by simp; omega) hn
  dsimp only
  rw [served_ok c1, served_ok c2]
  refine ev_if rfl (ev_if rfl (ev_if (by simp [srvs_length]) ?_))
  refine ev_unfold ?_
  simp only [insolvencylaw34_NoticeWorse.j0]
  refine ev_else (by simp [srvs_length]) ?_
  generalize hall : [] ++ la ++ lb = lall at *
  have sub : ∀ x ∈ la, x ∈ lall := fun x hx => by rw [← hall]; simp [hx]
  have key : ∀ (n i : Nat), i ≤ ns.length → ns.length - i = n → Ev (fun k => insolvencylaw34_NoticeWorse.l0 k ns (srvs la e t p ns 0) (srvs lall e t p ns 0) (i : Int)) true := by
    intro n
    induction n with
    | zero =>
      intro i hi hn'
      refine ev_unfold ?_
      simp only [insolvencylaw34_NoticeWorse.l0]
      exact ev_else (by omega) (Ev.bind (f := fun _ t => some t) awake_ev (Ev.now _))
    | succ n ih =>
      intro i hi hn'
      have hlt : i < ns.length := by omega
      have hz := hn ns[i] (List.getElem_mem hlt)
      have ra : rd_T50 (srvs la e t p ns 0) (i : Int) = srv la e t p ns[i].f1 ((0 + i : Nat) : Int) := by rw [rdS _ _ (by rw [srvs_length]; exact hlt), srvs_get _ _ _ _ _ _ _ _ hlt]
      have rb : rd_T50 (srvs lall e t p ns 0) (i : Int) = srv lall e t p ns[i].f1 ((0 + i : Nat) : Int) := by rw [rdS _ _ (by rw [srvs_length]; exact hlt), srvs_get _ _ _ _ _ _ _ _ hlt]
      have hw := worse_of la lall sub (i := ((0 + i : Nat) : Int)) e1 (latestW ⟨e1, e2⟩ ⟨t1, t2⟩ ⟨p1, p2⟩ hz.2).1 p1 t.toNat 0 0 0 0 0 (by omega) (by omega) (by omega) (by omega) (fun h => absurd h (by omega)) (fun h => absurd h (by omega))
      refine ev_unfold ?_
      simp only [insolvencylaw34_NoticeWorse.l0, ra, rb]
      unfold srv
      have nx : Ev (fun k => insolvencylaw34_NoticeWorse.l0 k ns (srvs la e t p ns 0) (srvs lall e t p ns 0) (wrap64 ((i : Int) + 1))) true := by
        rw [w64n _ (by omega)]
        exact ih (i + 1) (by omega) (by omega)
      refine ev_if (by omega) (ev_if (by omega) (ev_if (by rw [srvs_length]; omega) (ev_if (by rw [srvs_length]; omega) (ev_else (by omega) (ev_else (by omega) ?_)))))
      by_cases c : (srvL lall e t p ns[i].f1 ((0 + i : Nat) : Int) t.toNat 0 0 0).f3 = true
      · exact ev_if c (ev_if (hw.2.2 c) nx)
      · exact ev_else c nx
  simpa using key ns.length 0 (by omega) (by omega)
end Go.Proofs.Ytjdkfdcaicdenaa.Pure
