/- Part 6 of 6 of the proof of DocketTwice: texts of this claim put one behind the other by a program; each begins with its own words. -/
import Derived.Test.YtpfiecjacpbhkaaRows
import Derived.WalkKit
import Derived.ProofKit
import Derived.OpenShut
import Derived.ShutString
import Derived.ChangeOld
import Derived.Below
import Derived.SizedLaws
import Derived.Carry
import Derived.Test.YtpfiecjacpbhkaaZDocketTwice5
namespace Go.Proofs.Ytpfiecjacpbhkaa.D
open Go.RowKit Go.Proofs.YtpfiecjacpbhkaaW.PrintWords Go.Proofs.YtpfiecjacpbhkaaW.PrintLast Go.Proofs.YtpfiecjacpbhkaaW.PrintMore Hx Hm Go.Shelf Go.Sort
set_option linter.unusedVariables false
set_option linter.unusedSimpArgs false
def leR (x y : S52) : Prop := ¬ (y.f1 < x.f1 ∨ y.f1 = x.f1 ∧ y.f0 < x.f0)
theorem gtR_iff (x r : S52) : (gtR x r = true) ↔ ¬ leR x r := by
  unfold gtR leR
  simp
  omega
theorem shR_get (p : Nat) : ∀ (j : Nat) (L : List S52), j < L.length → ∀ k : Nat, (shR L p j)[k]? = if p < k ∧ k ≤ j then L[k - 1]? else L[k]?
  | 0, L, h, k => by
    rw [shR, if_neg (by omega)]
  | j + 1, L, h, k => by
    unfold shR
    by_cases c : p < j + 1
    · rw [if_pos c, shR_get p j _ (by rw [List.length_set]; omega) k]
      have e : rd_T52 L (j : Int) = L[j] := by
        unfold rd_T52
        rw [Int.toNat_natCast, List.getD_eq_getElem?_getD, List.getElem?_eq_getElem (by omega)]
        rfl
      rw [e]
      by_cases c1 : p < k ∧ k ≤ j
      · rw [if_pos c1, if_pos (by omega), List.getElem?_set_ne (by omega)]
      · rw [if_neg c1]
        by_cases c2 : k = j + 1
        · subst c2
          rw [if_pos (by omega), List.getElem?_set_self (by omega), Nat.add_sub_cancel, List.getElem?_eq_getElem (by omega)]
        · rw [if_neg (by omega), List.getElem?_set_ne (by omega)]
    · rw [if_neg c, if_neg (by omega)]
theorem insR_eq (l : List S52) (r : S52) : insR l r = l.take (posR l r l.length) ++ r :: l.drop (posR l r l.length) := by
  have hp := posR_le l r l.length
  unfold insR
  generalize posR l r l.length = p at *
  apply List.ext_getElem?
  intro k
  rw [List.getElem?_set, shR_length]
  by_cases c : p = k
  · subst c
    rw [if_pos rfl, if_pos (by simp; omega), List.getElem?_append_right (by rw [List.length_take]; omega), List.length_take, Nat.min_eq_left hp, Nat.sub_self]
    rfl
  · rw [if_neg c, shR_get p l.length _ (by simp)]
    by_cases c1 : p < k ∧ k ≤ l.length
    · rw [if_pos c1, List.getElem?_append_left (by omega), List.getElem?_append_right (by rw [List.length_take]; omega), List.length_take, Nat.min_eq_left hp]
      obtain ⟨m, rfl⟩ : ∃ m, k = p + m + 1 := ⟨k - p - 1, by omega⟩
      rw [show p + m + 1 - p = m + 1 by omega, List.getElem?_cons_succ, List.getElem?_drop, show p + m + 1 - 1 = p + m by omega]
    · rw [if_neg c1]
      by_cases c2 : k < p
      · rw [List.getElem?_append_left (by omega), List.getElem?_append_left (by rw [List.length_take]; omega), List.getElem?_take_of_lt c2]
      · rw [List.getElem?_eq_none (by simp; omega), List.getElem?_eq_none (by simp; omega)]
theorem insR_perm (l : List S52) (r : S52) : (insR l r).Perm (l ++ [r]) := by
  rw [insR_eq]
  refine List.perm_middle.trans ?_
  rw [List.take_append_drop]
  exact (List.perm_append_singleton r l).symm
theorem posR_spec (l : List S52) (r : S52) : ∀ k, k ≤ l.length → (∀ j (h : j < l.length), posR l r k ≤ j → j < k → ¬ leR l[j] r) ∧ ∀ (h : posR l r k - 1 < l.length), 0 < posR l r k → leR l[posR l r k - 1] r
  | 0, hk => by
    rw [posR]
    exact ⟨fun j h h1 h2 => by omega, fun h h0 => by omega⟩
  | k + 1, hk => by
    have e : rd_T52 l (k : Int) = l[k] := by
      unfold rd_T52
      rw [Int.toNat_natCast, List.getD_eq_getElem?_getD, List.getElem?_eq_getElem (by omega)]
      rfl
    by_cases c : gtR l[k] r = true
    · have hp : posR l r (k + 1) = posR l r k := by rw [posR, e, if_pos c]
      rw [hp]
      have ih := posR_spec l r k (by omega)
      refine ⟨fun j h h1 h2 => ?_, ih.2⟩
      by_cases c2 : j = k
      · subst c2
        exact (gtR_iff _ _).1 c
      · exact ih.1 j h h1 (by omega)
    · have hp : posR l r (k + 1) = k + 1 := by rw [posR, e, if_neg c]
      rw [hp]
      refine ⟨fun j h h1 h2 => by omega, fun h h0 => ?_⟩
      rw [gtR_iff] at c
      simp only [Nat.add_sub_cancel]
      exact Classical.not_not.1 c
theorem leR_trans {x y z : S52} (h1 : leR x y) (h2 : leR y z) : leR x z := by
  unfold leR at *
  omega
theorem leR_total {x y : S52} (h : ¬ leR x y) : leR y x := by
  unfold leR at *
  omega
theorem insR_sorted (l : List S52) (r : S52) (h : l.Pairwise leR) : (insR l r).Pairwise leR := by
  rw [insR_eq]
  have hp := posR_le l r l.length
  have hs := posR_spec l r l.length (Nat.le_refl _)
  generalize posR l r l.length = p at *
  have hl : ∀ x ∈ l.take p, leR x r := by
    intro x hx
    obtain ⟨j, hj, rfl⟩ := List.mem_iff_getElem.1 hx
    rw [List.length_take] at hj
    rw [List.getElem_take]
    have h1 := hs.2 (by omega) (by omega)
    by_cases c : j = p - 1
    · subst c; exact h1
    · exact leR_trans ((List.pairwise_iff_getElem.1 h) j (p - 1) (by omega) (by omega) (by omega)) h1
  have hr : ∀ y ∈ l.drop p, leR r y := by
    intro y hy
    obtain ⟨j, hj, rfl⟩ := List.mem_iff_getElem.1 hy
    rw [List.length_drop] at hj
    rw [List.getElem_drop]
    exact leR_total (hs.1 (p + j) (by omega) (by omega) (by omega))
  rw [List.pairwise_append, List.pairwise_cons]
  refine ⟨h.sublist (List.take_sublist _ _), ⟨hr, h.sublist (List.drop_sublist _ _)⟩, fun x hx y hy => ?_⟩
  rcases List.mem_cons.1 hy with rfl | hy
  · exact hl x hx
  · exact leR_trans (hl x hx) (hr y hy)
theorem sortR_sorted (l : List S52) : (sortR l).Pairwise leR := by
  have h := (Go.Sort.insertionSort_holds (lt := ltOf rulCmp) rul_swo l.toArray 0 l.length (Nat.zero_le _) (by simp))
  unfold sortR
  have h2 : (Sort.insertionSort (ltOf rulCmp) l.toArray 0 l.length).size = l.length := by simpa using h.1.1
  have h3 := h.2
  generalize Sort.insertionSort (ltOf rulCmp) l.toArray 0 l.length = S at *
  rw [List.pairwise_iff_getElem]
  intro i j hi hj hij
  have h4 := h3 i j (Nat.zero_le _) hij (by rw [← h2]; simpa using hj)
  rw [rul_lt, decide_eq_false_iff_not] at h4
  have e1 : S[i]! = S.toList[i] := by rw [getElem!_pos S i (by simpa using hi)]; rfl
  have e2 : S[j]! = S.toList[j] := by rw [getElem!_pos S j (by simpa using hj)]; rfl
  rw [e1, e2] at h4
  exact h4
theorem sort_unique (l1 l2 : List S52) (hp : l1.Perm l2) (h1 : l1.Pairwise leR) (h2 : l2.Pairwise leR) (hn : (l1.map (·.f0)).Nodup) : l1 = l2 := by
  refine List.Perm.eq_of_pairwise (le := leR) (fun a b ha hb hab hba => ?_) h1 h2 hp
  have he : a.f0 = b.f0 := by unfold leR at hab hba; omega
  have hb1 := hp.mem_iff.2 hb
  clear hab hba h1 h2 hp hb
  induction l1 with
  | nil => cases ha
  | cons x r ih =>
    rw [List.map_cons, List.nodup_cons] at hn
    rcases List.mem_cons.1 ha with e1 | ha' <;> rcases List.mem_cons.1 hb1 with e2 | hb'
    · rw [e1, e2]
    · exact (hn.1 (List.mem_map.2 ⟨b, hb', by rw [← he, e1]⟩)).elim
    · exact (hn.1 (List.mem_map.2 ⟨a, ha', by rw [he, e2]⟩)).elim
    · exact ih hn.2 ha' hb'
theorem insAll (rest : List S52) : ∀ l : List S52, l.Pairwise leR → (rest.foldl insR l).Pairwise leR ∧ (rest.foldl insR l).Perm (l ++ rest) := by
  induction rest with
  | nil => exact fun l h => ⟨h, by simp⟩
  | cons r rest ih =>
    intro l h
    obtain ⟨h1, h2⟩ := ih (insR l r) (insR_sorted l r h)
    refine ⟨h1, h2.trans ?_⟩
    have := (insR_perm l r).append_right rest
    simpa using this
theorem lapGo_eq (day : Int) : ∀ (rest done : List S50) (l : List S52), lapGo day rest.length (done ++ rest) l done.length = (done ++ rest.map (lapM day), (rest.filterMap (lapR day)).foldl insR l)
  | [], done, l => by simp [lapGo]
  | m :: r, done, l => by
    rw [List.length_cons, lapGo, rd_mid]
    by_cases h : lapses day m
    · have e : lapses2 day m = true := by
        unfold lapses2
        rw [decide_eq_true h.2, Bool.and_true]
        have := h.1
        simpa using this
      have e1 : lapR day m = some (lapR2 m) := if_pos h
      have e2 : lapM day m = lapM2 day m := if_pos h
      have es : (done ++ m :: r).set done.length (lapM2 day m) = (done ++ [lapM2 day m]) ++ r := by
        have := set_mid done r m (lapM2 day m)
        rw [Int.toNat_natCast] at this
        rw [this]
        simp
      have ih := lapGo_eq day r (done ++ [lapM2 day m]) (insR l (lapR2 m))
      rw [List.length_append] at ih
      rw [if_pos e, es, List.filterMap_cons, e1, List.map_cons, e2, List.foldl_cons]
      simpa using ih
    · have e : lapses2 day m = false := by
        unfold lapses2
        unfold lapses at h
        by_cases h1 : m.f1 = 2 ∨ m.f1 = 4
        · have : ¬ m.f2 < day := fun h2 => h ⟨h1, h2⟩
          rw [decide_eq_false this, Bool.and_false]
        · have : (m.f1 == 2 || m.f1 == 4) = false := by simpa using h1
          rw [this, Bool.false_and]
      have e1 : lapR day m = none := if_neg h
      have e2 : lapM day m = m := if_neg h
      have ih := lapGo_eq day r (done ++ [m]) l
      rw [List.length_append] at ih
      rw [e, if_neg (by decide), List.filterMap_cons, e1, List.map_cons, e2]
      simpa using ih
theorem lap_nodup (day : Int) : ∀ ms : List S50, (ms.map (·.f0)).Nodup → ((ms.filterMap (lapR day)).map (·.f0)).Nodup
  | [], _ => by simp
  | m :: r, h => by
    rw [List.map_cons, List.nodup_cons] at h
    have ih := lap_nodup day r h.2
    by_cases hl : lapses day m
    · have e1 : lapR day m = some ⟨m.f0, wrap64 (m.f2 + 1), m.f3⟩ := if_pos hl
      rw [List.filterMap_cons, e1, List.map_cons, List.nodup_cons]
      refine ⟨fun hm => ?_, ih⟩
      obtain ⟨x, hx, he⟩ := List.mem_map.1 hm
      obtain ⟨y, hy, hy2⟩ := List.mem_filterMap.1 hx
      unfold lapR at hy2
      split at hy2
      · obtain rfl := Option.some.inj hy2
        exact h.1 (List.mem_map.2 ⟨y, hy, he⟩)
      · cases hy2
    · have e1 : lapR day m = none := if_neg hl
      rw [List.filterMap_cons, e1]
      exact ih
theorem lapsed_some (k : Nat) (d ans app : Int) (hs : List Int) (ms : List S50) (day : Int) (h1 : hs.length < 1000000) (h2 : ms.length < 1000000) (hn : (ms.map (·.f0)).Nodup) :
    insolvencyref33_lapsed.f k d ans app hs ms day = some (day, ans, app, hs, ms.map (lapM day), sortR (ms.filterMap (lapR day))) := by
  unfold insolvencyref33_lapsed.f
  rw [if_pos ⟨h1, h2⟩]
  have e := lapGo_eq day ms [] []
  rw [List.nil_append, List.length_nil] at e
  rw [e]
  obtain ⟨i1, i2⟩ := insAll (ms.filterMap (lapR day)) [] List.Pairwise.nil
  rw [List.nil_append] at i2
  have : (ms.filterMap (lapR day)).foldl insR [] = sortR (ms.filterMap (lapR day)) := by
    refine sort_unique _ _ (i2.trans (sort_perm _).symm) i1 (sortR_sorted _) ?_
    exact (i2.map (·.f0)).nodup_iff.2 (lap_nodup day ms hn)
  rw [this]
  simp
end Go.Proofs.Ytpfiecjacpbhkaa.D

namespace Go.Proofs.Ytpfiecjacpbhkaa.D
open Go.RowKit Go.Proofs.YtpfiecjacpbhkaaW.PrintWords Go.Proofs.YtpfiecjacpbhkaaW.PrintLast Go.Proofs.YtpfiecjacpbhkaaW.PrintMore Hx Hm
set_option linter.unusedVariables false
set_option linter.unusedSimpArgs false
theorem runs_some (a b c d : Int) (e : Bool) : insolvencyref33_runs.f a b c d e = some (b == 2 || b == 4) := running_some a b c d e
theorem option_ev (o : Int) : insolvencyref33_option.f o = some (decide (0 ≤ o ∧ o < 4)) := by
  unfold insolvencyref33_option.f
  by_cases h : o ≥ 0
  · rw [if_pos h]
    by_cases h2 : o < 4
    · simp [h2, h]
    · simp [h2]
  · rw [if_neg h]
    simp; omega
theorem bad_ev (d ans app : Int) (hs : List Int) (ms : List S50) (m : S50) : Ev (fun k => insolvencyref33_badMatter.f k d ans app hs ms m.f0 m.f1 m.f2 m.f3 m.f4) (!decide (soundP d m)) := by
  refine ⟨2, fun k hk => ?_⟩
  obtain ⟨k, rfl⟩ : ∃ m, k = m + 2 := ⟨k - 2, by omega⟩
  obtain ⟨f0, f1, f2, f3, f4⟩ := m
  show insolvencyref33_badMatter.f (k + 2) d ans app hs ms f0 f1 f2 f3 f4 = some (!decide (soundP d ⟨f0, f1, f2, f3, f4⟩))
  by_cases hs : 1 ≤ f1 ∧ f1 ≤ 6 ∧ 0 ≤ f3 ∧ f3 < 4
  · have e1 : f1 = 1 ∨ f1 = 2 ∨ f1 = 3 ∨ f1 = 4 ∨ f1 = 5 ∨ f1 = 6 := by omega
    have a1 : ¬ f3 < 0 := by omega
    have a2 : ¬ 4 ≤ f3 := by omega
    have a3 : 0 ≤ f3 := by omega
    have a4 : f3 < 4 := by omega
    by_cases b1 : f2 < d <;> by_cases b2 : 1048576 < f2 <;> by_cases b3 : f2 = 0 <;> by_cases b4 : f3 = 0 <;> cases f4 <;> rcases e1 with rfl | rfl | rfl | rfl | rfl | rfl
    all_goals try subst b3
    all_goals try subst b4
    all_goals first | (simp [insolvencyref33_badMatter.f, insolvencyref33_badMatter.j0, insolvencyref33_badMatter.j1, runs_some, option_ev, soundP, *]; done) | (simp [insolvencyref33_badMatter.f, insolvencyref33_badMatter.j0, insolvencyref33_badMatter.j1, runs_some, option_ev, soundP, *]; omega)
  · have hs2 : ¬ soundP d ⟨f0, f1, f2, f3, f4⟩ := fun h => hs h.1
    rw [decide_eq_false hs2]
    unfold insolvencyref33_badMatter.f
    by_cases h1 : f1 < 1
    · rw [if_pos h1]; rfl
    · rw [if_neg h1]
      by_cases h2 : f1 > 6
      · rw [if_pos h2]; rfl
      · rw [if_neg h2, option_ev, Option.bind_some, decide_eq_false (by omega)]
        rfl
theorem rcheck_inner (d ans app : Int) (hs : List Int) (ms : List S50) (i : Nat) (hi : i < ms.length) (hl : ms.length < 4611686018427387904) (m : S50) (R : Int)
    (hc : Ev (fun k => (insolvencyref33_badMatter.f k d ans app hs ms m.f0 m.f1 m.f2 m.f3 m.f4).bind fun t => if t = true then some 1 else insolvencyref33_CheckDocket.l0 k (wrap64 ((i : Int) + 1)) d ans app hs ms) R) : ∀ (n j : Nat), j ≤ i → i - j = n →
    Ev (fun k => insolvencyref33_CheckDocket.l1 k (i : Int) (j : Int) d ans app hs ms m.f0 m.f1 m.f2 m.f3 m.f4) (if ((ms.take i).drop j).any (fun x => x.f0 == m.f0) = true then 12 else R)
  | 0, j, h1, h2 => by
    obtain rfl : j = i := by omega
    rw [List.drop_eq_nil_of_le (by rw [List.length_take]; omega), List.any_nil, if_neg (by decide)]
    exact Ev.step (fun k => rfl) (ev_else (by omega) hc)
  | n + 1, j, h1, h2 => by
    have hj : j < (ms.take i).length := by rw [List.length_take]; omega
    have e : (ms.take i)[j] = ms[j]'(by omega) := List.getElem_take
    rw [List.drop_eq_getElem_cons hj, List.any_cons, e]
    refine Ev.step (fun k => rfl) (ev_if (by omega) (ev_if (by omega) (ev_if (by omega) ?_)))
    rw [rdM (show j < ms.length by omega)]
    by_cases h3 : ms[j].f0 = m.f0
    · have : (ms[j].f0 == m.f0) = true := by simpa using h3
      rw [this, Bool.true_or, if_pos rfl]
      exact ev_if h3 (Ev.now _)
    · have : (ms[j].f0 == m.f0) = false := by simpa using h3
      rw [this, Bool.false_or]
      refine ev_else h3 ?_
      rw [wn j ms.length (by omega) hl]
      exact rcheck_inner d ans app hs ms i hi hl m R hc n (j + 1) (by omega) (by omega)
theorem rcheck_loop (d ans app : Int) (hs : List Int) (ms : List S50) (hl : ms.length < 4611686018427387904) : ∀ (n i : Nat), i ≤ ms.length → ms.length - i = n →
    Ev (fun k => insolvencyref33_CheckDocket.l0 k (i : Int) d ans app hs ms) (chkL d (ms.take i) (ms.drop i))
  | 0, i, h1, h2 => by
    obtain rfl : i = ms.length := by omega
    rw [List.drop_length, chkL]
    exact Ev.step (fun k => rfl) (ev_else (by omega) (Ev.now _))
  | n + 1, i, h1, h2 => by
    have hi : i < ms.length := by omega
    rw [List.drop_eq_getElem_cons hi, chkL]
    refine Ev.step (fun k => rfl) (ev_if (by omega) (ev_if (by omega) ?_))
    rw [rdM hi]
    by_cases h3 : ms[i].f0 < 0
    · rw [if_pos h3]
      exact ev_if h3 (Ev.now _)
    rw [if_neg h3]
    refine ev_else h3 ?_
    refine rcheck_inner d ans app hs ms i hi hl ms[i] _ ?_ i 0 (Nat.zero_le _) (by omega)
    refine Ev.bind (bad_ev d ans app hs ms ms[i]) ?_
    by_cases h5 : soundP d ms[i]
    · rw [if_pos h5]
      refine ev_else (by simpa using h5) ?_
      rw [wn i _ hi hl, List.take_append_getElem hi]
      exact rcheck_loop d ans app hs ms hl n (i + 1) (by omega) (by omega)
    · rw [if_neg h5]
      exact ev_if (by simpa using h5) (Ev.now _)
theorem rcheck_ev (day ans app : Int) (hs : List Int) (ms : List S50) : Ev (fun k => insolvencyref33_CheckDocket.f k day ans app hs ms) (chkV day ans app hs ms) := by
  unfold insolvencyref33_CheckDocket.f
  refine ev_then (refCheckTerms_some day ans app hs) ?_
  unfold chkV
  by_cases h : ctE day ans app hs.length = 0
  · rw [if_pos h]
    refine ev_if h ?_
    by_cases h2 : 32 < ms.length
    · rw [if_pos h2]
      exact ev_if (by omega) (Ev.now _)
    · rw [if_neg h2]
      exact ev_else (by omega) (rcheck_loop day ans app hs ms (by omega) ms.length 0 (Nat.zero_le _) (by omega))
  · rw [if_neg h]
    exact ev_else h (Ev.now _)
theorem radv_ev (d ans app : Int) (hs : List Int) (ms : List S50) (day : Int) : Ev (fun k => insolvencyref33_Advance.f k d ans app hs ms day) (advV d ans app hs ms day) := by
  unfold insolvencyref33_Advance.f
  refine Ev.bind (rcheck_ev d ans app hs ms) ?_
  by_cases hc : chkV d ans app hs ms = 0
  · refine ev_if hc ?_
    obtain ⟨c1, c2, c3, c4⟩ := chkV_ok hc
    have hd : insolvencyref33_day.f day = some (decide (0 ≤ day ∧ day ≤ 1048576)) := by
      unfold insolvencyref33_day.f
      by_cases h0 : day ≥ 0
      · rw [if_pos h0]
        simp [h0]
      · rw [if_neg h0]
        simp; omega
    refine ev_then hd ?_
    by_cases h1 : 0 ≤ day ∧ day ≤ 1048576
    · refine ev_if (decide_eq_true h1) ?_
      by_cases h3 : day < d
      · have e : advV d ans app hs ms day = dkErr 15 := by unfold advV; rw [if_pos hc, if_neg (by omega), if_pos h3]
        rw [e]
        exact ev_if h3 (Ev.now _)
      · have e : advV d ans app hs ms day = (day, ans, app, hs, ms.map (lapM day), sortR (ms.filterMap (lapR day)), 0) := by unfold advV; rw [if_pos hc, if_neg (by omega), if_neg h3]
        rw [e]
        refine ev_else h3 ?_
        have hn := ((chkL_ok d ms []).1 c4).2.1
        exact Ev.bind ⟨0, fun k _ => lapsed_some k d ans app hs ms day (by omega) (by omega) hn⟩ (Ev.now _)
    · have e : advV d ans app hs ms day = dkErr 1 := by unfold advV; rw [if_pos hc, if_pos (by omega)]
      rw [e]
      exact ev_else (by simpa using h1) (Ev.now _)
  · have e : advV d ans app hs ms day = dkErr (chkV d ans app hs ms) := by unfold advV; rw [if_neg hc]
    rw [e]
    exact ev_else hc (Ev.now _)
theorem rtail_ev (ad : Int × Int) (day ans app : Int) (hs : List Int) (ms : List S50) (rl : List S52) (kind at_ id opt : Int) (h1 : ms.length < 1000000) (h2 : rl.length < 1000000) (hv : ∀ m ∈ ms, soundP day m)
    (ha : Ev (fun k => F.insolvencyref1_AddDays.f k at_ (if kind = 2 then ans else app) hs) ad) : Ev (fun k => ref_File.tail k day ans app hs ms rl kind at_ id opt) (tailV ad day ans app hs ms rl kind at_ id opt) := by
  unfold ref_File.tail tailV
  refine ev_ite (fun _ => Ev.now _) (fun c1 => ev_if (by omega) (ev_ite (fun _ => ev_ite (fun _ => Ev.now _) (fun _ => Ev.now _)) (fun c2 => ev_ite (fun _ => Ev.now _) (fun c3 => ev_ite (fun _ => Ev.now _) (fun c4 => ev_ite (fun _ => Ev.now _) (fun _ => ?_))))))
  refine Ev.bind (a := if kind = 2 ∨ kind = 4 then ad else (0, 0)) (ev_ite (fun _ => ha) (fun _ => Ev.now _)) ?_
  have e : rchgM (rd_T50 ms (fnd id ms 0)) kind (if kind = 2 ∨ kind = 4 then ad else (0, 0)).1 opt = chgM (rd_T50 ms (fnd id ms 0)) kind (if kind = 2 ∨ kind = 4 then ad else (0, 0)).1 opt := by
    unfold rchgM chgM
    by_cases c6 : kind = 6
    · obtain ⟨A, m, B, hms, hf, hm0⟩ := fnd_split id ms 0 (by omega)
      rw [Nat.zero_add] at hf
      have hrd : rd_T50 ms (fnd id ms 0) = m := by rw [hf, hms]; exact rd_mid A B m
      have hs := hv m (by rw [hms]; simp)
      rw [hrd] at c4 ⊢
      have : m.f2 = 0 := by
        have := hs.2.1
        omega
      simp only [if_pos c6, if_neg (show ¬ (kind = 2 ∨ kind = 4) by omega), this]
    · simp only [if_neg c6]
  rw [e]
  generalize (if kind = 2 ∨ kind = 4 then ad else (0, 0)) = b
  unfold chgV
  refine ev_ite (fun _ => Ev.now _) (fun _ => ?_)
  by_cases c8 : kind = 6
  · simp only [if_pos c8]
    exact ev_if (by omega) (Ev.now _)
  · simp only [if_neg c8]
    exact Ev.now _
theorem rfile_ev (ad : Int × Int) (d ans app : Int) (hs : List Int) (ms : List S50) (kind at_ id opt : Int) (ha : Ev (fun k => F.insolvencyref1_AddDays.f k at_ (if kind = 2 then ans else app) hs) ad) :
    Ev (fun k => ref_File.f k d ans app hs ms kind at_ id opt) (fileV ad d ans app hs ms kind at_ id opt) := by
  unfold ref_File.f fileV
  refine Ev.bind (radv_ev d ans app hs ms at_) ?_
  rcases advV_cases d ans app hs ms at_ with ⟨e0, e1, e2, e3, e4, e5⟩ | ⟨e0, e1⟩
  · rw [if_pos e0]
    refine ev_if e0 ?_
    obtain ⟨c1, c2, c3, c4⟩ := chkV_ok e2
    have hv := ((chkL_ok d ms []).1 c4).1
    have hl := List.length_filterMap_le (lapR at_) ms
    rw [e1]
    refine rtail_ev ad at_ ans app hs _ _ kind at_ id opt (by simp; omega) (by rw [ins_size]; omega) (fun m hm => ?_) ha
    obtain ⟨x, hx, rfl⟩ := List.mem_map.1 hm
    exact lap_sound e5 (hv x hx).2
  · rw [if_neg e0]
    exact ev_else e0 (Ev.now _)
theorem rdF' (done r : List S47) (x : S47) : rd_T47 (done ++ x :: r) (done.length : Int) = x := by
  unfold rd_T47
  rw [Int.toNat_natCast, List.getD_eq_getElem?_getD, List.getElem?_append_right (Nat.le_refl _)]
  simp
theorem built_loop (ans app : Int) (hs : List Int) : ∀ (rest done : List S47) (d : Int) (ms : List S50) (all : List S52), (∀ y ∈ rest, (0 ≤ y.f2 ∧ y.f2 < 4) ∧ 0 ≤ y.f1 ∧ y.f1 ≤ 72) → (done ++ rest).length ≤ 24 → 0 ≤ d → d ≤ 72 → Inv d ans app hs ms all →
    ∃ d2 ms2 all2, Ev (fun k => insolvencylaw33_built.l0 k (done ++ rest) (done.length : Int) d ans app hs ms) (d2, ans, app, hs, ms2) ∧ Inv d2 ans app hs ms2 all2 ∧ 0 ≤ d2 ∧ d2 ≤ 72
  | [], done, d, ms, all, hy, hl, d0, d1, h => ⟨d, ms, all, Ev.step (fun k => rfl) (ev_else (by simp) (Ev.now _)), h, d0, d1⟩
  | x :: r, done, d, ms, all, hy, hl, d0, d1, h => by
    have hlen : (done ++ x :: r).length = done.length + r.length + 1 := by simp; omega
    have hx := hy x (by simp)
    obtain ⟨ad, -, ha1, ha2⟩ := adds hs x.f1 (if x.f0 = 2 then ans else app)
    have hf := rfile_ev ad d ans app hs ms x.f0 x.f1 x.f2 x.f3 ha1
    have ew : wrap64 ((done.length : Int) + 1) = ((done ++ [x]).length : Int) := by rw [w64 _ (by omega) (by omega)]; simp
    by_cases he : (fileV ad d ans app hs ms x.f0 x.f1 x.f2 x.f3).2.2.2.2.2.2 = 0
    · obtain ⟨ms2, rl2, e1, h2, h4, h5⟩ := h.file ad x.f0 x.f1 x.f2 x.f3 hx.1 ha2 he
      obtain ⟨d3, ms3, all3, i1, i2, i3, i4⟩ := built_loop ans app hs r (done ++ [x]) x.f1 ms2 (all ++ rl2) (fun y hy' => hy y (by simp [hy'])) (by simpa using hl) hx.2.1 hx.2.2 h2
      refine ⟨d3, ms3, all3, Ev.step (fun k => rfl) (ev_if (by omega) (ev_if (by omega) ?_)), i2, i3, i4⟩
      rw [rdF', ew]
      refine Ev.bind hf (ev_if he ?_)
      rw [e1]
      rw [List.append_assoc] at i1
      exact i1
    · obtain ⟨d3, ms3, all3, i1, i2, i3, i4⟩ := built_loop ans app hs r (done ++ [x]) d ms all (fun y hy' => hy y (by simp [hy'])) (by simpa using hl) d0 d1 h
      refine ⟨d3, ms3, all3, Ev.step (fun k => rfl) (ev_if (by omega) (ev_if (by omega) ?_)), i2, i3, i4⟩
      rw [rdF', ew]
      refine Ev.bind hf (ev_else he ?_)
      rw [List.append_assoc] at i1
      exact i1
theorem built_ev (a b : Int) (l1 : List Int) (l2 : List S83) (ha : 0 ≤ a ∧ a < 256) (hb : 0 ≤ b ∧ b < 256) (h : ∀ x ∈ l2, Ho.ok83 x) :
    ∃ d ans app hs ms all, Ev (fun k => insolvencylaw33_built.f k a b l1 l2) (d, ans, app, hs, ms) ∧ Inv d ans app hs ms all ∧ 0 ≤ d ∧ d ≤ 72 := by
  obtain ⟨hs, h1, h2, h3⟩ := terms_ev a b l1 ha hb
  obtain ⟨fl, h4, h5, h6⟩ := mats_ev l2 h
  have hc := h3 0 (by omega) (by omega)
  obtain ⟨d, ms, all, i1, i2, i3, i4⟩ := built_loop (1 + a % 8) (1 + b % 8) hs fl [] 0 [] [] h6 (by simpa using h5) (by omega) (by omega) (Inv.new hc)
  refine ⟨d, _, _, hs, ms, all, ?_, i2, i3, i4⟩
  unfold insolvencylaw33_built.f
  refine Ev.bind h1 (ev_then (refNew_some _ _ _ _) ?_)
  rw [newV_ok hc]
  exact Ev.bind h4 i1
theorem Inv.hs_len {d ans app : Int} {hs : List Int} {ms : List S50} {all : List S52} (h : Inv d ans app hs ms all) : hs.length ≤ 1000 := ctE_len h.ct
theorem rul_loop (l : List S52) (hl : l.length < 4611686018427387904) : ∀ (n i : Nat), i ≤ l.length → l.length - i = n → Ev (fun k => insolvencyref33_SameRulings.l0 k l l (i : Int)) true
  | 0, i, h1, h2 => Ev.step (fun k => rfl) (ev_else (by omega) (Ev.now _))
  | n + 1, i, h1, h2 => by
    refine Ev.step (fun k => rfl) (ev_if (by omega) (ev_if (by omega) (ev_if (by omega) (ev_else (by simp) ?_))))
    rw [wn i l.length (by omega) hl]
    exact rul_loop l hl n (i + 1) (by omega) (by omega)
theorem sameRulings_ev (l : List S52) (hl : l.length < 4611686018427387904) : Ev (fun k => insolvencyref33_SameRulings.f k l l) true := ev_if rfl (rul_loop l hl l.length 0 (Nat.zero_le _) (by omega))
theorem advV_len {d ans app : Int} {hs : List Int} {ms : List S50} {day : Int} : (advV d ans app hs ms day).2.2.2.1.length ≤ 1000 ∧ (advV d ans app hs ms day).2.2.2.2.1.length ≤ 32 ∧ (advV d ans app hs ms day).2.2.2.2.2.1.length ≤ 32 := by
  rcases advV_cases d ans app hs ms day with ⟨-, e1, e2, -⟩ | ⟨-, e1⟩
  · obtain ⟨c1, c2, c3, c4⟩ := chkV_ok e2
    have hl := List.length_filterMap_le (lapR day) ms
    rw [e1]
    refine ⟨c2, by simpa using c3, ?_⟩
    show (sortR _).length ≤ 32
    rw [ins_size]
    omega
  · rw [e1]
    exact ⟨by simp [dkErr], by simp [dkErr], by simp [dkErr]⟩
end Go.Proofs.Ytpfiecjacpbhkaa.D

namespace Go.Proofs.Ytpfiecjacpbhkaa.Pure
open Go.RowKit Go.Proofs.YtpfiecjacpbhkaaW.PrintWords Go.Proofs.YtpfiecjacpbhkaaW.PrintLast Go.Proofs.YtpfiecjacpbhkaaW.PrintMore Hx Hm D
set_option linter.unusedVariables false
theorem lap_lap {a b : Int} (h : a ≤ b) (m : S50) : lapM b (lapM a m) = lapM b m := by
  by_cases h1 : lapses a m
  · have e : lapM a m = ⟨m.f0, 6, 0, m.f3, m.f1 == 2⟩ := if_pos h1
    have h2 : lapses b m := ⟨h1.1, by have := h1.2; omega⟩
    have e2 : lapM b m = ⟨m.f0, 6, 0, m.f3, m.f1 == 2⟩ := if_pos h2
    have h3 : ¬ lapses b (⟨m.f0, 6, 0, m.f3, m.f1 == 2⟩ : S50) := fun hh => (by decide : ¬ ((6 : Int) = 2 ∨ (6 : Int) = 4)) hh.1
    rw [e, e2]
    exact if_neg h3
  · have e : lapM a m = m := if_neg h1
    rw [e]
theorem two_perm {a b : Int} (h : a ≤ b) : ∀ ms : List S50, (ms.filterMap (lapR a) ++ (ms.map (lapM a)).filterMap (lapR b)).Perm (ms.filterMap (lapR b))
  | [] => by simp
  | m :: r => by
    have ih := two_perm h r
    by_cases h1 : lapses a m
    · have e : lapM a m = ⟨m.f0, 6, 0, m.f3, m.f1 == 2⟩ := if_pos h1
      have h2 : lapses b m := ⟨h1.1, by have := h1.2; omega⟩
      have h3 : ¬ lapses b (⟨m.f0, 6, 0, m.f3, m.f1 == 2⟩ : S50) := fun hh => (by decide : ¬ ((6 : Int) = 2 ∨ (6 : Int) = 4)) hh.1
      have e1 : lapR a m = some ⟨m.f0, wrap64 (m.f2 + 1), m.f3⟩ := if_pos h1
      have e2 : lapR b m = some ⟨m.f0, wrap64 (m.f2 + 1), m.f3⟩ := if_pos h2
      have e3 : lapR b (lapM a m) = none := by rw [e]; exact if_neg h3
      rw [List.map_cons, List.filterMap_cons, List.filterMap_cons, List.filterMap_cons, e1, e2, e3]
      exact List.Perm.cons _ ih
    · have e : lapM a m = m := if_neg h1
      have e1 : lapR a m = none := if_neg h1
      rw [List.map_cons, List.filterMap_cons, e1, e]
      by_cases h2 : lapses b m
      · have e2 : lapR b m = some ⟨m.f0, wrap64 (m.f2 + 1), m.f3⟩ := if_pos h2
        rw [List.filterMap_cons, List.filterMap_cons, e2]
        exact List.perm_middle.trans (List.Perm.cons _ ih)
      · have e2 : lapR b m = none := if_neg h2
        rw [List.filterMap_cons, List.filterMap_cons, e2]
        exact ih
theorem lapR_day {d a : Int} (hd : 0 ≤ d) {ms : List S50} (hs : ∀ m ∈ ms, soundP d m) {x : S52} (hx : x ∈ ms.filterMap (lapR a)) : ∃ m ∈ ms, lapses a m ∧ x.f1 = m.f2 + 1 := by
  obtain ⟨m, hm, he⟩ := List.mem_filterMap.1 hx
  unfold lapR at he
  by_cases hl : lapses a m
  · rw [if_pos hl] at he
    obtain rfl := Option.some.inj he
    have h3 := (hs m hm).2.1
    have h4 := hl.1
    exact ⟨m, hm, hl, w64 _ (by omega) (by omega)⟩
  · rw [if_neg hl] at he; cases he
theorem two_sort {d A B : Int} (hd : 0 ≤ d) (h1 : d ≤ A) (h2 : A ≤ B) {ms : List S50} (hs : ∀ m ∈ ms, soundP d m) (hn : (ms.map (·.f0)).Nodup) :
    sortR (ms.filterMap (lapR A)) ++ sortR ((ms.map (lapM A)).filterMap (lapR B)) = sortR (ms.filterMap (lapR B)) := by
  have hp : (sortR (ms.filterMap (lapR A)) ++ sortR ((ms.map (lapM A)).filterMap (lapR B))).Perm (sortR (ms.filterMap (lapR B))) :=
    ((sort_perm _).append (sort_perm _)).trans ((two_perm h2 ms).trans (sort_perm _).symm)
  refine sort_unique _ _ hp ?_ (sortR_sorted _) ?_
  · rw [List.pairwise_append]
    refine ⟨sortR_sorted _, sortR_sorted _, fun x hx y hy => ?_⟩
    obtain ⟨m, hm, l1, e1⟩ := lapR_day hd hs ((sort_perm _).mem_iff.1 hx)
    obtain ⟨m', hm', l2, e2⟩ := lapR_day (d := A) (by omega) (fun z hz => by
      obtain ⟨u, hu, rfl⟩ := List.mem_map.1 hz
      exact lap_sound h1 (hs u hu)) ((sort_perm _).mem_iff.1 hy)
    have hs' : soundP A m' := by
      obtain ⟨u, hu, rfl⟩ := List.mem_map.1 hm'
      exact lap_sound h1 (hs u hu)
    have q1 := l1.2
    have q2 := hs'.2.1
    have q3 := l2.1
    unfold leR
    omega
  · exact (hp.map (·.f0)).nodup_iff.2 (((sort_perm _).map (·.f0)).nodup_iff.2 (lap_nodup B ms hn))
theorem DocketTwice : insolvencylaw33_DocketTwice.Pure := by
  intro a0 l1 l2 a3 a4 w0 _ _ _ w2 w3 w4
  refine Ev.rounds (g := fun k => insolvencylaw33_DocketTwice.f k a0.f0 a0.f1 l1 l2 a3 a4) ?_
  unfold insolvencylaw33_DocketTwice.f
  obtain ⟨d, ans, app, hs, ms, all, e1, i1, d0, d1⟩ := built_ev a0.f0 a0.f1 l1 l2 (u8_of w0.1) (u8_of w0.2) w2
  have hlen := i1.len
  have hhs := i1.hs_len
  have u3 := u8_of w3
  have u4 := u8_of w4
  refine Ev.bind e1 ?_
  rw [tm a3 40 u3 (by omega), tm a4 40 u4 (by omega), w64 (d + a3 % 40) (by omega) (by omega), w64 (d + a3 % 40 + a4 % 40) (by omega) (by omega)]
  obtain ⟨A, hA⟩ : ∃ A, A = d + a3 % 40 := ⟨_, rfl⟩
  obtain ⟨B, hB⟩ : ∃ B, B = A + a4 % 40 := ⟨_, rfl⟩
  rw [← hA, ← hB]
  have c1 : d ≤ A := by omega
  have c2 : A ≤ B := by omega
  have c3 : B ≤ 1048576 := by omega
  have i2 := i1.adv A c1 (by omega)
  have v1 : advV d ans app hs ms A = (A, ans, app, hs, ms.map (lapM A), sortR (ms.filterMap (lapR A)), 0) := by unfold advV; rw [if_pos i1.chk, if_neg (by omega), if_neg (by omega)]
  have v2 : advV A ans app hs (ms.map (lapM A)) B = (B, ans, app, hs, (ms.map (lapM A)).map (lapM B), sortR ((ms.map (lapM A)).filterMap (lapR B)), 0) := by unfold advV; rw [if_pos i2.chk, if_neg (by omega), if_neg (by omega)]
  have v3 : advV d ans app hs ms B = (B, ans, app, hs, ms.map (lapM B), sortR (ms.filterMap (lapR B)), 0) := by unfold advV; rw [if_pos i1.chk, if_neg (by omega), if_neg (by omega)]
  have f1 := advV_ev d ans app hs ms A (Nat.le_trans (List.length_filterMap_le _ _) (by omega))
  have f2 := advV_ev A ans app hs (ms.map (lapM A)) B (Nat.le_trans (List.length_filterMap_le _ _) (by rw [List.length_map]; omega))
  have f3 := advV_ev d ans app hs ms B (Nat.le_trans (List.length_filterMap_le _ _) (by omega))
  rw [v1] at f1
  rw [v2] at f2
  rw [v3] at f3
  have em : (ms.map (lapM A)).map (lapM B) = ms.map (lapM B) := by
    rw [List.map_map]
    congr 1
    funext m
    exact lap_lap c2 m
  have es := two_sort d0 c1 c2 (fun m hm => (i1.ok m hm).2.2) i1.nd
  have q1 : (sortR (ms.filterMap (lapR A))).length ≤ 4 := by rw [ins_size]; exact Nat.le_trans (List.length_filterMap_le _ _) hlen
  have q2 : (sortR ((ms.map (lapM A)).filterMap (lapR B))).length ≤ 4 := by rw [ins_size]; exact Nat.le_trans (List.length_filterMap_le _ _) (by rw [List.length_map]; exact hlen)
  have q3 : (sortR (ms.filterMap (lapR B))).length ≤ 4 := by rw [ins_size]; exact Nat.le_trans (List.length_filterMap_le _ _) hlen
  refine Ev.bind f1 (Ev.bind f2 (Ev.bind f3 (Ev.bind awake_ev (ev_if rfl (ev_if rfl (ev_if rfl (ev_if rfl ?_)))))))
  dsimp only
  rw [em]
  refine Ev.bind (sameDocket_ev _ _ _ _ _ (by omega) (by rw [List.length_map]; omega)) (ev_if rfl (Ev.bind (Ev.now _) (ev_if (by rw [List.length_nil]; omega) (Ev.bind (Ev.now _) (ev_if (by rw [List.nil_append]; omega) ?_)))))
  rw [List.nil_append, es]
  exact Ev.bind (sameRulings_ev _ (by omega)) (Ev.now _)
end Go.Proofs.Ytpfiecjacpbhkaa.Pure

namespace Go.Proofs.Ytpfiecjacpbhkaa.docketTwice
open Go.ChangeShapes Go.WideShapes Go.ChangeAt Go.RowKit Go.Proofs.YtpfiecjacpbhkaaW.PrintWords
set_option linter.unusedVariables false
set_option linter.unusedSimpArgs false
theorem own : ownKnob Try.prog.godebug = none := by kernel_rfl
theorem laidOut : laidOutB Try.prog = true := by kernel_rfl
set_option maxRecDepth 100000 in
theorem lifted (os : Os) (started : os.Started) (H : Type) (enc : TypeId × Value → H) :
    ReturnsInHanded {} Try.checked os 3 .any (Rows.docketTwiceSpec.pre6 enc Try.prog Try.f3 Rows.docketTwiceRow.domain false) (Rows.docketTwiceSpec.post enc Try.prog Try.f3 false true false false) := by
  refine returnsInHanded_of_change_sized (C := Try.checked) own started (by kernel_rfl) Try.func3
    (ChangeSpec.witness6 (enc := enc) (C := Try.checked) false ⟨#[], #[.agg #[.int .u8 0, .int .u8 0], .slice none 0 0, .slice none 0 0, .int .u8 0, .int .u8 0], []⟩ 8 (by kernel_rfl) (by kernel_rfl) (by kernel_rfl) (by kernel_rfl)) ?_
  intro W base args ds gs before hval0 hW hcnd hsz0 _
  have hval : ∀ (j : Nat) t v, Try.f3.params[j]? = some t → args[j]? = some v → Value.okWide Try.prog W .any base t v := hval0
  have hW' := hW
  obtain ⟨p, q, hA0, hV, rfl, hfz, hnd⟩ := hW
  have hA : DataW.TrodAll enc Try.prog W 0 (fun _ => true) true Try.f3.params.toList args.toList ds p := hA0
  rw [Try.params3] at hA hval
  obtain ⟨v0, vs0, d0, ds0, p0, q0, hargs, rfl, rfl, h0, r0⟩ := trodAll_cons hA
  obtain ⟨v1, vs1, d1, ds1, p1, q1, rfl, rfl, rfl, h1, r1⟩ := trodAll_cons r0
  obtain ⟨v2, vs2, d2, ds2, p2, q2, rfl, rfl, rfl, h2, r2⟩ := trodAll_cons r1
  obtain ⟨v3, vs3, d3, ds3, p3, q3, rfl, rfl, rfl, h3, r3⟩ := trodAll_cons r2
  obtain ⟨v4, vs4, d4, ds4, p4, q4, rfl, rfl, rfl, h4, r4⟩ := trodAll_cons r3
  obtain ⟨rfl, rfl, rfl⟩ := trodAll_nil r4
  obtain rfl : args = #[v0, v1, v2, v3, v4] := by cases args; simp_all
  obtain ⟨rfl, rfl⟩ := trodVars_none hV
  have k0 := h0
  have lt0 : ∀ x ∈ p0, x.block < W.heap.size := by obtain ⟨m, hm⟩ := k0; exact DataW.trod_lt m _ _ _ hm
  obtain ⟨cs0, a0, rfl, K0, w0⟩ := Ho.open_array Try.underlying22 (hval 0 22 v0 rfl rfl) h0 Ho.reads22
  obtain rfl := D.k22_open K0
  have k1 := h1
  have lt1 : ∀ x ∈ p1, x.block < W.heap.size := by obtain ⟨m, hm⟩ := k1; exact DataW.trod_lt m _ _ _ hm
  obtain ⟨A1, l1, c1, rfl, lc1, lm1, rr1, w1⟩ := Ho.open_rows Try.underlying23 (hval 1 23 v1 rfl rfl) h1 Ho.readsI_u16
  have k2 := h2
  have lt2 : ∀ x ∈ p2, x.block < W.heap.size := by obtain ⟨m, hm⟩ := k2; exact DataW.trod_lt m _ _ _ hm
  obtain ⟨A2, l2, c2, rfl, lc2, lm2, rr2, w2⟩ := Ho.open_rows Try.underlying24 (hval 2 24 v2 rfl rfl) h2 Ho.reads83
  have k3 := h3
  have lt3 : ∀ x ∈ p3, x.block < W.heap.size := by obtain ⟨m, hm⟩ := k3; exact DataW.trod_lt m _ _ _ hm
  obtain ⟨a3, rfl, _, _, w3⟩ := open_int Try.underlying5 (hval 3 5 v3 rfl rfl) h3
  have k4 := h4
  have lt4 : ∀ x ∈ p4, x.block < W.heap.size := by obtain ⟨m, hm⟩ := k4; exact DataW.trod_lt m _ _ _ hm
  obtain ⟨a4, rfl, _, _, w4⟩ := open_int Try.underlying5 (hval 4 5 v4 rfl rfl) h4
  clear hA0 hval0 hsz0
  obtain ⟨k, hk⟩ := Pure.DocketTwice a0 l1 l2 a3 a4 w0 lm1 w1 lm2 w2 w3 w4
  refine (D.insolvencylaw33_DocketTwice.calls k a0.f0 a0.f1 _ _ l1 _ _ l2 a3 a4 true W (show Kd.C _ W A1 l1.length l1 from rr1) lc1 (show Kd.C _ W A2 l2.length l2 from rr2) lc2 hk).mono fun e W' ⟨he, bel⟩ => ?_
  subst he
  exact ⟨_, rfl, _, _, _, [], _, [], hW', trodAll_mk1 (shut_bool Try.underlying4 _), (trodAll_cons_mk (Below.trod laidOut (by kernel_rfl) (of_decide_eq_true (by kernel_rfl)) k0 bel lt0) (trodAll_cons_mk (Below.trod laidOut (by kernel_rfl) (of_decide_eq_true (by kernel_rfl)) k1 bel lt1) (trodAll_cons_mk (Below.trod laidOut (by kernel_rfl) (of_decide_eq_true (by kernel_rfl)) k2 bel lt2) (trodAll_cons_mk (Below.trod laidOut (by kernel_rfl) (of_decide_eq_true (by kernel_rfl)) k3 bel lt3) (trodAll_cons_mk (Below.trod laidOut (by kernel_rfl) (of_decide_eq_true (by kernel_rfl)) k4 bel lt4) trodAll_mk0))))), rfl, bel.frame _, fun h => by cases h⟩
theorem over : Rows.docketTwiceRow.holds Try.pinned (OpenSpec.ofChange Rows.docketTwiceSpec) :=
  OpenClaim.holds_of_wide 3 Try.f3 rfl rfl rfl rfl rfl rfl rfl ⟨rfl, rfl, rfl, rfl, rfl⟩ rfl rfl rfl rfl rfl (by kernel_rfl) Try.func3 (by kernel_rfl)
    (of_decide_eq_true (by kernel_rfl)) (by unfold Func.isWrapper; first | (rw [if_pos (by decide +kernel)]; kernel_rfl) | (rw [if_neg (by decide +kernel)]; exact ⟨rfl, rfl⟩))
    (fun os started H enc _ => lifted os started H enc)
theorem proved : Rows.DocketTwiceSaid := over
#print axioms proved
end Go.Proofs.Ytpfiecjacpbhkaa.docketTwice
namespace Go.Proofs.Ytpfiecjacpbhkaa
theorem docketTwice_holds : Rows.DocketTwiceSaid := docketTwice.proved
end Go.Proofs.Ytpfiecjacpbhkaa
