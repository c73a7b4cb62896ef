/- NoticeDeadlines answers true at every input. No condition. -/
import Derived.Test.YtmlhckcnpfokaaaGcala
import Derived.Test.YtmlhckcnpfokaaaGdead
import Derived.Test.YtmlhckcnpfokaaaSayNoticeDeadlines
namespace Go.Proofs.Ytmlhckcnpfokaaa.Pure
open Go.RowKit D Hn Ho Go.Proofs.YtmlhckcnpfokaaaW.PrintWords Go.Proofs.YtmlhckcnpfokaaaW.PrintLast
abbrev Dv := S45

theorem deadlines (l : List Dv) (n : Int) (hs : List Int) (hl : l.length ≤ 1000) : ∃ r : List Int × Int, Ev (fun k => notice_Deadlines.f k l n hs) r ∧ Ev (fun k => insolvencyref33_Deadlines.f k l n hs) r ∧ r.1.length ≤ 1000 := by
  have key : ∀ (m i : Nat) (acc : List Int), i ≤ l.length → l.length - i = m → acc.length ≤ i →
      ∃ r : List Int × Int, Ev (fun k => notice_Deadlines.l0 k n hs acc l (l.length : Int) (i : Int)) r ∧ Ev (fun k => insolvencyref33_Deadlines.l0 k l n hs acc (i : Int)) r ∧ r.1.length ≤ 1000 := by
    intro m
    induction m with
    | zero =>
      intro i acc hi hm ha
      refine ⟨(acc, 0), ev_unfold ?_, ev_unfold ?_, (by show acc.length ≤ 1000; omega)⟩
      · simp only [notice_Deadlines.l0]
        exact ev_else (by omega) (Ev.now _)
      · simp only [insolvencyref33_Deadlines.l0]
        exact ev_else (by omega) (Ev.now _)
    | succ m ih =>
      intro i acc hi hm ha
      have hlt : i < l.length := by omega
      have ex := rdS l i hlt
      obtain ⟨r, h1, h2, _⟩ := Hx.adds hs l[i].f0 n
      by_cases h0 : r.2 = 0
      · obtain ⟨q, q1, q2, q3⟩ := ih (i + 1) (acc ++ [r.1]) (by omega) (by omega) (by simp; omega)
        refine ⟨q, ev_unfold ?_, ev_unfold ?_, q3⟩
        · simp only [notice_Deadlines.l0, ex]
          refine ev_if (by omega) (ev_if (by omega) (ev_if (by omega) (Ev.bind h1 (ev_if h0 (ev_if (by omega) ?_)))))
          rw [w64n _ (by omega)]
          exact q1
        · simp only [insolvencyref33_Deadlines.l0, ex]
          refine ev_if (by omega) (ev_if (by omega) (Ev.bind h2 (ev_if h0 (ev_if (by omega) ?_))))
          rw [w64n _ (by omega)]
          exact q2
      · refine ⟨([], r.2), ev_unfold ?_, ev_unfold ?_, by simp⟩
        · simp only [notice_Deadlines.l0, ex]
          exact ev_if (by omega) (ev_if (by omega) (ev_if (by omega) (Ev.bind h1 (ev_else h0 (Ev.now _)))))
        · simp only [insolvencyref33_Deadlines.l0, ex]
          exact ev_if (by omega) (ev_if (by omega) (Ev.bind h2 (ev_else h0 (Ev.now _))))
  unfold notice_Deadlines.f insolvencyref33_Deadlines.f
  exact key l.length 0 [] (by omega) (by omega) (by simp)

theorem sameInts_ev (l : List Int) (hl : l.length ≤ 1000) : Ev (fun k => insolvencyref1_SameInts.f k l l) true := by
  have key : ∀ (n i : Nat), i ≤ l.length → l.length - i = n → Ev (fun k => insolvencyref1_SameInts.l0 k l l (i : Int)) true := by
    intro n
    induction n with
    | zero =>
      intro i hi hn
      refine ev_unfold ?_
      simp only [insolvencyref1_SameInts.l0]
      exact ev_else (by omega) (Ev.now _)
    | succ n ih =>
      intro i hi hn
      refine ev_unfold ?_
      simp only [insolvencyref1_SameInts.l0]
      refine ev_if (by omega) (ev_if (by omega) (ev_if (by omega) (ev_if trivial ?_)))
      rw [w64n _ (by omega)]
      exact ih (i + 1) (by omega) (by omega)
  unfold insolvencyref1_SameInts.f
  refine ev_if rfl ?_
  simpa using key l.length 0 (by omega) (by omega)

theorem terms_ev (l : List Int) : ∃ r, Ev (fun k => insolvencylaw0_Terms.f k 0 0 l) r := by
  have key : ∀ (n i : Nat) (a b : Int) (acc : List Int), i ≤ 6 → 6 - i = n → acc.length ≤ i → ∃ r, Ev (fun k => insolvencylaw0_Terms.l0 k l (i : Int) a b acc) r := by
    intro n
    induction n with
    | zero =>
      intro i a b acc hi hn ha
      refine ⟨(a, b, acc), ev_unfold ?_⟩
      simp only [insolvencylaw0_Terms.l0]
      by_cases h : (i : Int) < (l.length : Int)
      · exact ev_if h (ev_else (by omega) (Ev.now _))
      · exact ev_else h (Ev.now _)
    | succ n ih =>
      intro i a b acc hi hn ha
      by_cases h : (i : Int) < (l.length : Int)
      · obtain ⟨r, hr⟩ := ih (i + 1) a b (acc ++ [wrap64 (Int.tmod (rd l i) 60)]) (by omega) (by omega) (by simp; omega)
        refine ⟨r, ev_unfold ?_⟩
        simp only [insolvencylaw0_Terms.l0]
        refine ev_if h (ev_if (by omega) (ev_if (by omega) (ev_if (by omega) ?_)))
        rw [w64n _ (by omega)]
        exact hr
      · refine ⟨(a, b, acc), ev_unfold ?_⟩
        simp only [insolvencylaw0_Terms.l0]
        exact ev_else h (Ev.now _)
  unfold insolvencylaw0_Terms.f
  exact key 6 0 _ _ [] (by omega) (by omega) (by simp)

theorem NoticeDeadlines : insolvencylaw34_NoticeDeadlines.Pure := by
  intro l0 l1 a2 l3 l4 _ _ h1 _ _ _ _ _ _
  refine Ev.rounds (g := fun k => insolvencylaw34_NoticeDeadlines.f k l0 l1 a2 l3 l4) ?_
  have say : Ev (fun k => insolvencylaw34_NoticeDeadlines.j0 k l0 l1 a2 l3 l4 true) true := by
    refine ev_unfold ?_
    simp only [insolvencylaw34_NoticeDeadlines.j0]
    exact ev_if trivial (Ev.bind (f := fun _ t => some t) awake_ev (Ev.now _))
  unfold insolvencylaw34_NoticeDeadlines.f
  by_cases c0 : (l0.length : Int) > 8
  · exact ev_if c0 say
  refine ev_else c0 ?_
  by_cases c1 : (l1.length : Int) > 8
  · exact ev_if c1 say
  refine ev_else c1 ?_
  by_cases c4 : (l4.length : Int) > 10
  · rw [decide_eq_true c4]
    exact say
  rw [decide_eq_false c4]
  refine ev_unfold ?_
  simp only [insolvencylaw34_NoticeDeadlines.j0]
  refine ev_else (by simp) ?_
  have key : ∀ (n i : Nat) (acc : List Dv), i ≤ l1.length → l1.length - i = n → acc.length ≤ i → Ev (fun k => insolvencylaw34_NoticeDeadlines.l0 k l0 l1 a2 l3 l4 acc (i : Int)) true := by
    intro n
    induction n with
    | zero =>
      intro i acc hi hn ha
      obtain ⟨r, hr⟩ := terms_ev l3
      obtain ⟨x, x1, x2, x3⟩ := deadlines acc (wrap64 (Int.tmod a2 20)) r.2.2 (by omega)
      obtain ⟨y, y1, y2, y3⟩ := deadlines l0 (wrap64 a2) l4 (by omega)
      refine ev_unfold ?_
      simp only [insolvencylaw34_NoticeDeadlines.l0]
      refine ev_else (by omega) (Ev.bind hr (Ev.bind x1 (Ev.bind x2 (Ev.bind y1 (Ev.bind y2 (Ev.bind awake_ev (ev_if rfl (ev_if rfl ?_))))))))
      refine Ev.bind (sameInts_ev _ x3) (ev_if rfl (ev_if rfl ?_))
      exact Ev.bind (f := fun _ t => some t) (sameInts_ev _ y3) (Ev.now _)
    | succ n ih =>
      intro i acc hi hn ha
      refine ev_unfold ?_
      simp only [insolvencylaw34_NoticeDeadlines.l0]
      refine ev_if (by omega) (ev_if (by omega) (ev_if (by omega) ?_))
      rw [w64n _ (by omega)]
      exact ih (i + 1) _ (by omega) (by omega) (by simp; omega)
  exact key l1.length 0 [] (by omega) (by omega) (by simp)
end Go.Proofs.Ytmlhckcnpfokaaa.Pure
