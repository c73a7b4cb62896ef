/- The plain law of the calendar: business days counted, the closed days' list, the binary search; no program in sight. -/
import Derived.Test.YtmlhckcnpfokaaaWMore
import Derived.Lib.SlicesCompact
namespace Go.Proofs.Ytmlhckcnpfokaaa.Hm
open Go.Proofs.YtmlhckcnpfokaaaW.PrintWords
set_option linter.unusedVariables false

/-! ### the binary search -/
def bsGo (p : Nat → Bool) : Nat → Nat → Nat → Nat
  | 0, lo, _ => lo
  | k + 1, lo, hi => if lo < hi then (if p ((lo + hi) / 2) then bsGo p k lo ((lo + hi) / 2) else bsGo p k ((lo + hi) / 2 + 1) hi) else lo
def bs (p : Nat → Bool) (n : Nat) : Nat := bsGo p n 0 n
theorem bsGo_done (p : Nat → Bool) (k lo hi : Nat) (h : ¬ lo < hi) : bsGo p k lo hi = lo := by
  cases k with
  | zero => rfl
  | succ k => simp [bsGo, h]
theorem bsGo_spec (p : Nat → Bool) (n : Nat) (hm : ∀ a b, a ≤ b → b < n → p a = true → p b = true) : ∀ (k lo hi : Nat), lo ≤ hi → hi ≤ n → hi - lo ≤ k → (∀ t, t < lo → p t = false) → (∀ t, hi ≤ t → t < n → p t = true) →
    bsGo p k lo hi ≤ n ∧ (∀ t, t < bsGo p k lo hi → p t = false) ∧ ∀ t, bsGo p k lo hi ≤ t → t < n → p t = true := by
  intro k
  induction k with
  | zero =>
    intro lo hi h1 h2 h3 h4 h5
    obtain rfl : lo = hi := by omega
    exact ⟨h2, h4, h5⟩
  | succ k ih =>
    intro lo hi h1 h2 h3 h4 h5
    rw [bsGo]
    by_cases hl : lo < hi
    · rw [if_pos hl]
      by_cases hp : p ((lo + hi) / 2) = true
      · rw [if_pos hp]
        exact ih lo _ (by omega) (by omega) (by omega) h4 (fun t ht htn => hm _ t ht htn hp)
      · rw [if_neg hp]
        refine ih _ hi (by omega) h2 (by omega) (fun t ht => ?_) h5
        cases hpt : p t with
        | false => rfl
        | true => exact absurd (hm t _ (by omega) (by omega) hpt) hp
    · rw [if_neg hl]
      obtain rfl : lo = hi := by omega
      exact ⟨h2, h4, h5⟩
theorem bs_spec (p : Nat → Bool) (n : Nat) (hm : ∀ a b, a ≤ b → b < n → p a = true → p b = true) :
    bs p n ≤ n ∧ (∀ t, t < bs p n → p t = false) ∧ ∀ t, bs p n ≤ t → t < n → p t = true :=
  bsGo_spec p n hm n 0 n (Nat.zero_le _) (Nat.le_refl _) (by omega) (fun t ht => absurd ht (Nat.not_lt_zero _)) (fun t h1 h2 => by omega)

/-! ### business days -/
def wk (d : Nat) : Nat := d / 7 * 5 + min (d % 7) 5
def bus (hs : List Int) (d : Int) : Bool := decide (0 ≤ d) && (decide (d ≤ 1048576) && (decide (d % 7 < 5) && !hs.contains d))
def cnt (hs : List Int) : Nat → Nat
  | 0 => 0
  | n + 1 => cnt hs n + if bus hs (n : Int) = true then 1 else 0
theorem cnt_mono (hs : List Int) {a b : Nat} (h : a ≤ b) : cnt hs a ≤ cnt hs b := by
  induction b with
  | zero => obtain rfl : a = 0 := by omega
            exact Nat.le_refl _
  | succ b ih =>
    by_cases hb : a = b + 1
    · rw [hb]; exact Nat.le_refl _
    · have := ih (by omega)
      rw [cnt]
      omega
theorem cnt_le (hs : List Int) (n : Nat) : cnt hs n ≤ n := by
  induction n with
  | zero => exact Nat.le_refl _
  | succ n ih => rw [cnt]; split <;> omega

/-- The closed days' list: ascending, each once, the holidays that fall on working days. -/
def IsClosed (hs c : List Int) : Prop := c.Pairwise (· < ·) ∧ ∀ h, h ∈ c ↔ (h ∈ hs ∧ 0 ≤ h ∧ h ≤ 1048576 ∧ h % 7 < 5)
def nb (c : List Int) (d : Int) : Nat := c.countP (fun x => decide (x < d))
theorem nb_le (c : List Int) (d : Int) : nb c d ≤ c.length := List.countP_le_length
theorem nb_zero (c : List Int) (d : Int) (h : ∀ x ∈ c, d ≤ x) : nb c d = 0 := by
  unfold nb
  rw [List.countP_eq_zero]
  intro x hx
  have := h x hx
  simp; omega
theorem nb_succ : ∀ (c : List Int) (d : Int), c.Pairwise (· < ·) → nb c (d + 1) = nb c d + if d ∈ c then 1 else 0
  | [], d, _ => by simp [nb]
  | x :: c, d, h => by
    obtain ⟨h1, h2⟩ := List.pairwise_cons.1 h
    have ih := nb_succ c d h2
    unfold nb at ih ⊢
    rw [List.countP_cons, List.countP_cons, ih]
    by_cases hx : x = d
    · subst hx
      have hn : x ∉ c := fun hm => by have := h1 x hm; omega
      simp [hn]
      omega
    · have e : (d ∈ x :: c) ↔ d ∈ c := by simp [Ne.symm hx]
      by_cases hd : d ∈ c
      · rw [if_pos hd, if_pos (e.2 hd)]
        by_cases hl : x < d
        · rw [if_pos (by simp; omega), if_pos (by simpa using hl)]; try omega
        · rw [if_neg (by simp; omega), if_neg (by simpa using hl)]
      · rw [if_neg hd, if_neg (fun z => hd (e.1 z))]
        by_cases hl : x < d
        · rw [if_pos (by simp; omega), if_pos (by simpa using hl)]; try omega
        · rw [if_neg (by simp; omega), if_neg (by simpa using hl)]
theorem cnt_closed {hs c : List Int} (hc : IsClosed hs c) : ∀ d : Nat, d ≤ 1048577 → cnt hs d + nb c d = wk d
  | 0, _ => by
    rw [nb_zero c ((0 : Nat) : Int) (fun x hx => by have := ((hc.2 x).1 hx).2.1; omega)]
    rfl
  | d + 1, hd => by
    have ih := cnt_closed hc d (by omega)
    have e := nb_succ c (d : Int) hc.1
    have hm := hc.2 (d : Int)
    rw [show ((d + 1 : Nat) : Int) = (d : Int) + 1 by omega, e, cnt]
    have hw : wk (d + 1) = wk d + if d % 7 < 5 then 1 else 0 := by
      unfold wk
      split <;> omega
    have hb : bus hs (d : Int) = true ↔ (d % 7 < 5 ∧ (d : Int) ∉ hs) := by
      unfold bus
      simp only [Bool.and_eq_true, decide_eq_true_eq, Bool.not_eq_true', List.contains_eq_mem, decide_eq_false_iff_not]
      constructor
      · rintro ⟨_, _, h3, h4⟩; exact ⟨by omega, h4⟩
      · rintro ⟨h3, h4⟩; exact ⟨by omega, by omega, by omega, h4⟩
    rw [hw]
    by_cases h5 : d % 7 < 5
    · by_cases hh : (d : Int) ∈ hs
      · rw [if_neg (fun z => (hb.1 z).2 hh), if_pos (hm.2 ⟨hh, by omega, by omega, by omega⟩), if_pos h5]; omega
      · rw [if_pos (hb.2 ⟨h5, hh⟩), if_neg (fun z => hh (hm.1 z).1), if_pos h5]; omega
    · rw [if_neg (fun z => h5 (hb.1 z).1), if_neg (fun z => h5 (by have := (hm.1 z).2.2.2; omega)), if_neg h5]; omega

/-! ### a search in the closed days' list -/
theorem rd_nat (l : List Int) (i : Nat) (h : i < l.length) : rd l (i : Int) = l[i] := by
  unfold rd
  rw [Int.toNat_natCast, List.getD_eq_getElem?_getD, List.getElem?_eq_getElem h]
  rfl
theorem bs_nb (c : List Int) (d : Int) (h : c.Pairwise (· < ·)) : bs (fun i => decide (d ≤ rd c i)) c.length = nb c d := by
  obtain ⟨h1, h2, h3⟩ := bs_spec (fun i => decide (d ≤ rd c i)) c.length (fun a b hab hb hp => by
    simp only [decide_eq_true_eq] at hp ⊢
    rw [rd_nat c b hb]
    rw [rd_nat c a (by omega)] at hp
    by_cases e : a = b
    · subst e; exact hp
    · have := List.pairwise_iff_getElem.1 h a b (by omega) hb (by omega)
      omega)
  generalize bs (fun i => decide (d ≤ rd c i)) c.length = r at h1 h2 h3
  have e := List.take_append_drop r c
  unfold nb
  have t : (c.take r).countP (fun x => decide (x < d)) = (c.take r).length := by
    rw [List.countP_eq_length]
    intro x hx
    obtain ⟨i, hi, rfl⟩ := List.mem_iff_getElem.1 hx
    have hi' : i < r := by rw [List.length_take] at hi; omega
    have := h2 i hi'
    rw [rd_nat c i (by omega)] at this
    rw [List.getElem_take]
    simp at this ⊢
    omega
  have dd : (c.drop r).countP (fun x => decide (x < d)) = 0 := by
    rw [List.countP_eq_zero]
    intro x hx
    obtain ⟨i, hi, rfl⟩ := List.mem_iff_getElem.1 hx
    rw [List.length_drop] at hi
    have := h3 (r + i) (by omega) (by omega)
    rw [rd_nat c (r + i) (by omega)] at this
    rw [List.getElem_drop]
    simp at this ⊢
    omega
  rw [← e, List.countP_append, t, dd, List.length_take]
  omega

/-! ### the answer of Add -/
/-- 'the first day that has more than m business days up to and with it' -/
def IsRes (hs : List Int) (m : Int) (x : Int × Int) : Prop :=
  (∃ d : Nat, d ≤ 1048576 ∧ x = ((d : Int), 0) ∧ m < (cnt hs (d + 1) : Int) ∧ (cnt hs d : Int) ≤ m) ∨ (x = (0, 1) ∧ (cnt hs 1048577 : Int) ≤ m)
theorem IsRes.unique {hs : List Int} {m : Int} {x y : Int × Int} (h : IsRes hs m x) (k : IsRes hs m y) : x = y := by
  rcases h with ⟨d, hd, rfl, h1, h2⟩ | ⟨rfl, h1⟩ <;> rcases k with ⟨e, he, rfl, k1, k2⟩ | ⟨rfl, k1⟩
  · have hde : ¬ d < e := fun hl => by have := cnt_mono hs (show d + 1 ≤ e by omega); omega
    have hed : ¬ e < d := fun hl => by have := cnt_mono hs (show e + 1 ≤ d by omega); omega
    obtain rfl : d = e := by omega
    rfl
  · have := cnt_mono hs (show d + 1 ≤ 1048577 by omega); omega
  · have := cnt_mono hs (show e + 1 ≤ 1048577 by omega); omega
  · rfl
/-- The binary search gives it. -/
theorem res_of_bs {hs : List Int} {m : Int} (hm : 0 ≤ m) {p : Nat → Bool} (hp : ∀ d, d < 1048577 → p d = decide (m < (cnt hs (d + 1) : Int))) :
    IsRes hs m (if (bs p 1048577 : Int) > 1048576 then (0, 1) else (((bs p 1048577 : Nat) : Int), 0)) := by
  obtain ⟨h1, h2, h3⟩ := bs_spec p 1048577 (fun a b hab hb hpa => by
    rw [hp a (by omega)] at hpa
    rw [hp b hb]
    have := cnt_mono hs (show a + 1 ≤ b + 1 by omega)
    simp at hpa ⊢
    omega)
  generalize bs p 1048577 = r at h1 h2 h3
  by_cases hr : (r : Int) > 1048576
  · rw [if_pos hr]
    have := h2 1048576 (by omega)
    rw [hp _ (by omega)] at this
    simp at this
    exact .inr ⟨rfl, this⟩
  · rw [if_neg hr]
    have h4 := h3 r (Nat.le_refl _) (by omega)
    rw [hp _ (by omega)] at h4
    simp at h4
    refine .inl ⟨r, by omega, rfl, h4, ?_⟩
    cases r with
    | zero => simpa [cnt] using hm
    | succ r =>
      have h5 := h2 r (by omega)
      rw [hp _ (by omega)] at h5
      simp at h5
      exact h5

/-! ### sorted and compacted -/
theorem keeps_sorted (zs : List Int) (h : zs.Pairwise (· ≤ ·)) (i j : Nat) (hij : i < j) (hj : j < zs.length) (hk : Lib.keeps zs.toArray j = true) : zs[i] < zs[j] := by
  have h1 : zs[i] ≤ zs[j - 1] := by
    by_cases e : i = j - 1
    · subst e; exact Int.le_refl _
    · exact List.pairwise_iff_getElem.1 h i (j - 1) (by omega) (by omega) (by omega)
  have h2 : zs[j - 1] ≤ zs[j] := List.pairwise_iff_getElem.1 h (j - 1) j (by omega) hj (by omega)
  have h3 : zs[j - 1] ≠ zs[j] := by
    intro e
    rw [Lib.keeps_neg (d := zs.toArray) (m := j) (by omega) (by rw [getElem!_pos _ j (by simpa using hj), getElem!_pos _ (j - 1) (by simp; omega)]; simpa using e.symm)] at hk
    cases hk
  omega
theorem compact_mono (zs : List Int) (h : zs.Pairwise (· ≤ ·)) : (Lib.compact zs).Pairwise (· < ·) := by
  unfold Lib.compact Lib.compactUpTo
  rw [List.pairwise_map]
  have hr : ((List.range zs.length).filter (Lib.keeps zs.toArray)).Pairwise (· < ·) := List.Pairwise.filter _ List.pairwise_lt_range
  refine List.Pairwise.imp_of_mem (fun {a b} ha hb hab => ?_) hr
  obtain ⟨ha1, ha2⟩ := List.mem_filter.1 ha
  obtain ⟨hb1, hb2⟩ := List.mem_filter.1 hb
  rw [List.mem_range] at ha1 hb1
  have := keeps_sorted zs h a b hab hb1 hb2
  rw [getElem!_pos _ a (by simpa using ha1), getElem!_pos _ b (by simpa using hb1)]
  simpa using this
theorem compact_mem (zs : List Int) (x : Int) : x ∈ Lib.compact zs ↔ x ∈ zs := by
  unfold Lib.compact Lib.compactUpTo
  constructor
  · intro hx
    obtain ⟨i, hi, rfl⟩ := List.mem_map.1 hx
    have hi1 := List.mem_range.1 (List.mem_filter.1 hi).1
    rw [getElem!_pos _ i (by simpa using hi1)]
    simp
  · intro hx
    obtain ⟨i, hi, rfl⟩ := List.mem_iff_getElem.1 hx
    rw [List.mem_map]
    -- the first place of the run
    have key : ∀ j, ∀ hj : j < zs.length, ∃ a, a ∈ (List.range zs.length).filter (Lib.keeps zs.toArray) ∧ zs.toArray[a]! = zs[j] := by
      intro j
      induction j with
      | zero =>
        intro hj
        exact ⟨0, List.mem_filter.2 ⟨List.mem_range.2 hj, Lib.keeps_lt_one _ 0 (by omega)⟩, by rw [getElem!_pos _ 0 (by simpa using hj)]; simp⟩
      | succ j ih =>
        intro hj
        by_cases e : zs[j] = zs[j + 1]
        · obtain ⟨a, ha, hv⟩ := ih (by omega)
          exact ⟨a, ha, by rw [hv, e]⟩
        · refine ⟨j + 1, List.mem_filter.2 ⟨List.mem_range.2 hj, Lib.keeps_pos ?_⟩, by rw [getElem!_pos _ (j + 1) (by simpa using hj)]; simp⟩
          rw [getElem!_pos _ (j + 1) (by simpa using hj), getElem!_pos _ (j + 1 - 1) (by simp; omega)]
          simpa using fun z => e z.symm
    obtain ⟨a, ha, hv⟩ := key i hi
    exact ⟨a, ha, hv⟩
theorem compact_len (zs : List Int) : (Lib.compact zs).length ≤ zs.length := by
  unfold Lib.compact Lib.compactUpTo
  rw [List.length_map]
  exact Nat.le_trans (List.length_filter_le _ _) (by rw [List.length_range]; exact Nat.le_refl _)
def closedOf (hs : List Int) : List Int := Lib.compact ((hs.filter fun h => decide (0 ≤ h) && (decide (h ≤ 1048576) && decide (h % 7 < 5))).mergeSort fun x y => decide (x ≤ y))
theorem closedOf_closed (hs : List Int) : IsClosed hs (closedOf hs) := by
  refine ⟨compact_mono _ ?_, fun h => ?_⟩
  · have := List.pairwise_mergeSort (le := fun x y : Int => decide (x ≤ y)) (fun a b c h1 h2 => by simp at h1 h2 ⊢; omega) (fun a b => by simp; omega) (hs.filter fun h => decide (0 ≤ h) && (decide (h ≤ 1048576) && decide (h % 7 < 5)))
    exact this.imp (fun h => by simpa using h)
  · unfold closedOf
    rw [compact_mem, List.mem_mergeSort, List.mem_filter]
    simp
theorem closedOf_length (hs : List Int) : (closedOf hs).length ≤ hs.length := by
  unfold closedOf
  refine Nat.le_trans (compact_len _) ?_
  rw [List.length_mergeSort]
  exact List.length_filter_le _ _
theorem cnt_low (hs : List Int) (d : Nat) (hd : d ≤ 1048577) : wk d ≤ cnt hs d + hs.length := by
  have h1 := cnt_closed (closedOf_closed hs) d hd
  have h2 := nb_le (closedOf hs) d
  have h3 := closedOf_length hs
  omega
end Go.Proofs.Ytmlhckcnpfokaaa.Hm
