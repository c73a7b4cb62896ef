/- NoticeAlone answers true at every input. No condition. -/
import Derived.Test.YtjdkfdcaicdenaaGnoti
import Derived.Test.YtjdkfdcaicdenaaSayNoticeAlone
namespace Go.Proofs.Ytjdkfdcaicdenaa.Pure
open Go.RowKit F Hn Ho Go.Proofs.YtjdkfdcaicdenaaW.PrintWords Go.Proofs.YtjdkfdcaicdenaaW.PrintLast

theorem srvL_like (a b : List Ls) {e tr pu d i j : Int} (h : ∀ t c, lostAt a i t c = lostAt b j t c) : ∀ (n : Nat) (t day recv : Int), srvL a e tr pu d i n t day recv = srvL b e tr pu d j n t day recv := by
  intro n
  induction n with
  | zero => intro t day recv; rfl
  | succ n ih =>
    intro t day recv
    unfold srvL
    rw [h t false, h t true, ih, ih]

def mine (k : Int) (l : List Ls) : List Ls := (l.filter fun x => x.f0 == k).map fun x => ⟨0, x.f1, x.f2⟩

theorem mine_at (k : Int) (l : List Ls) (t : Int) (c : Bool) : lostAt l k t c = lostAt (mine k l) 0 t c := by
  unfold lostAt mine
  induction l with
  | nil => rfl
  | cons x r ih =>
    rw [List.any_cons, List.filter_cons]
    by_cases h : x.f0 = k
    · rw [if_pos (by simpa using h), List.map_cons, List.any_cons, ih]
      simp [h]
    · rw [if_neg (by simpa using h), ← ih]
      simp [h]

theorem NoticeAlone : insolvencylaw34_NoticeAlone.Pure := by
  intro a0 l1 l2 a3 h0 h1 h2 _ h3 h4
  refine Ev.rounds (g := fun k => insolvencylaw34_NoticeAlone.f k a0.f0 a0.f1 a0.f2 l1 l2 a3) ?_
  unfold insolvencylaw34_NoticeAlone.f
  obtain ⟨e, t, p, hp, hg, e1, e2, t1, t2, p1, p2⟩ := post_some a0 h0
  have hn := notices_good h2
  have ok2 := losses_ok h3 20
  have q3 := wf8 h4
  have hlen : ((l1.take 6).map noticeOf).length ≤ 6 := by simp; omega
  have len2 : ((l2.take 20).map lossOf).length ≤ 20 := by simp; omega
  refine ev_then hp (Ev.bind (notices_ev l1 h2) ?_)
  generalize (l1.take 6).map noticeOf = ns at *
  by_cases hz : (ns.length : Int) = 0
  · exact ev_if hz (Ev.bind (f := fun _ t => some t) awake_ev (Ev.now _))
  refine ev_else hz (Ev.bind (losses_ev l2 h3) ?_)
  generalize (l2.take 20).map lossOf = la at *
  have m := tm_pos (x := a3) (n := (ns.length : Int)) (by omega) (by omega)
  rw [w64 a3 (by omega) (by omega)]
  obtain ⟨k, hk⟩ : ∃ k : Nat, Int.tmod a3 (ns.length : Int) = (k : Int) := ⟨(Int.tmod a3 (ns.length : Int)).toNat, by omega⟩
  rw [hk] at m ⊢
  have hkl : k < ns.length := by omega
  have c1 : chk e t p ns la = 0 := chk_good hg (by omega) (by omega) hn
  have nslice : (ns.take (k + 1)).drop k = [ns[k]] := by
    rw [List.drop_take, show k + 1 - k = 1 by omega, List.drop_eq_getElem_cons hkl]
    rfl
  have okm : ∀ y ∈ mine (k : Int) la, ok54 y := by
    intro y hy
    obtain ⟨x, hx, rfl⟩ := List.mem_map.1 hy
    have := ok2 x (List.mem_filter.1 hx).1
    exact ⟨wf64.2 (show -9223372036854775808 ≤ (0 : Int) ∧ (0 : Int) ≤ 9223372036854775807 from by omega), this.2⟩
  have lenm : (mine (k : Int) la).length ≤ 20 := by
    unfold mine
    rw [List.length_map]
    exact Nat.le_trans (List.length_filter_le _ _) len2
  have c2 : chk e t p [ns[k]] (mine (k : Int) la) = 0 := chk_good hg (by simp) (by omega) (fun y hy => by
    have : y = ns[k] := by simpa using hy
    rw [this]
    exact hn ns[k] (List.getElem_mem hkl))
  have hend : Ev (fun n => insolvencylaw34_NoticeAlone.l0 n ns (k : Int) la (mine (k : Int) la) (la.length : Int) e t p) true := by
    refine ev_unfold ?_
    simp only [insolvencylaw34_NoticeAlone.l0]
    refine ev_else (by omega) (Ev.bind (serveAll_ev _ _ _ _ _ ok2) ?_)
    rw [w64n _ (by omega)]
    refine ev_if (by omega) (ev_if (by omega) (ev_if (by omega) ?_))
    rw [show (((k + 1 : Nat) : Int)).toNat = k + 1 from Int.toNat_natCast _, show ((k : Int)).toNat = k from Int.toNat_natCast _, nslice]
    refine Ev.bind (serveAll_ev _ _ _ _ _ okm) (Ev.bind awake_ev (ev_if rfl ?_))
    rw [served_ok c1, served_ok c2]
    refine ev_if rfl (ev_if rfl (ev_if (by simp [srvs_length]) (ev_if (by simp [srvs_length]) (ev_if (by rw [srvs_length]; omega) (ev_if (by simp [srvs_length]) ?_)))))
    have ra : rd_T50 (srvs la e t p ns 0) (k : Int) = srv la e t p ns[k].f1 ((0 + k : Nat) : Int) := by rw [rdS _ _ (by rw [srvs_length]; exact hkl), srvs_get _ _ _ _ _ _ _ _ hkl]
    have rb : rd_T50 (srvs (mine (k : Int) la) e t p [ns[k]] 0) 0 = srv (mine (k : Int) la) e t p ns[k].f1 0 := rfl
    have eq : srv la e t p ns[k].f1 ((0 + k : Nat) : Int) = srv (mine (k : Int) la) e t p ns[k].f1 0 := by
      unfold srv
      rw [show ((0 + k : Nat) : Int) = (k : Int) by omega]
      exact srvL_like _ _ (mine_at (k : Int) la) _ _ _ _
    refine ev_const ?_
    rw [ra, rb, eq]
    simp
  have key : ∀ (n i : Nat), i ≤ la.length → la.length - i = n → Ev (fun n => insolvencylaw34_NoticeAlone.l0 n ns (k : Int) la (mine (k : Int) (la.take i)) (i : Int) e t p) true := by
    intro n
    induction n with
    | zero =>
      intro i hi hn'
      have : i = la.length := by omega
      subst this
      rw [List.take_length]
      exact hend
    | succ n ih =>
      intro i hi hn'
      have hlt : i < la.length := by omega
      have ex := rdL la i hlt
      have nx := ih (i + 1) (by omega) (by omega)
      have et : mine (k : Int) (la.take (i + 1)) = mine (k : Int) (la.take i) ++ (if la[i].f0 = (k : Int) then [⟨0, la[i].f1, la[i].f2⟩] else []) := by
        unfold mine
        rw [List.take_add_one, List.getElem?_eq_getElem hlt, Option.toList_some, List.filter_append, List.map_append]
        congr 1
        by_cases h : la[i].f0 = (k : Int)
        · rw [if_pos h, List.filter_cons, if_pos (by simpa using h)]
          rfl
        · rw [if_neg h, List.filter_cons, if_neg (by simpa using h)]
          rfl
      refine ev_unfold ?_
      simp only [insolvencylaw34_NoticeAlone.l0, ex]
      refine ev_if (by omega) (ev_if (by omega) ?_)
      rw [w64n _ (by omega)]
      by_cases h : la[i].f0 = (k : Int)
      · rw [if_pos h] at et
        rw [et] at nx
        refine ev_if h (ev_if ?_ nx)
        have : (mine (k : Int) (la.take i)).length ≤ 20 := by
          unfold mine
          rw [List.length_map]
          refine Nat.le_trans (List.length_filter_le _ _) ?_
          simp
          omega
        omega
      · rw [if_neg h, List.append_nil] at et
        rw [et] at nx
        exact ev_else h nx
  have := key la.length 0 (by omega) (by omega)
  simpa [mine] using this
end Go.Proofs.Ytjdkfdcaicdenaa.Pure
