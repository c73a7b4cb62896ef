/- More of what the calendar's functions come to: the sanity check answers true; Count; IsBusiness; the lists of the laws: no condition. -/
import Derived.Test.YtmlhckcnpfokaaaGcale
import Derived.Test.YtmlhckcnpfokaaaF5
namespace Go.Proofs.Ytmlhckcnpfokaaa.Hx
open Go.RowKit Go.Proofs.YtmlhckcnpfokaaaW.PrintWords Go.Proofs.YtmlhckcnpfokaaaW.PrintLast Go.Proofs.YtmlhckcnpfokaaaW.PrintMore F Hm
set_option linter.unusedVariables false

theorem w64n (n : Nat) (h : n ≤ 9223372036854775806) : wrap64 ((n : Int) + 1) = ((n + 1 : Nat) : Int) := by rw [w64 _ (by omega) (by omega)]; omega
theorem wf64 {x : Int} (h : (Lit.int .i64 x).wf = true) : -9223372036854775808 ≤ x ∧ x ≤ 9223372036854775807 := by
  simp [Lit.wf, IntKind.min, IntKind.max, IntKind.signed, IntKind.bits] at h
  omega
theorem wf8 {x : Int} (h : (Lit.int .u8 x).wf = true) : 0 ≤ x ∧ x ≤ 255 := by
  simp [Lit.wf, IntKind.min, IntKind.max, IntKind.signed, IntKind.bits] at h
  omega
theorem wf16 {x : Int} (h : (Lit.int .u16 x).wf = true) : 0 ≤ x ∧ x ≤ 65535 := by
  simp [Lit.wf, IntKind.min, IntKind.max, IntKind.signed, IntKind.bits] at h
  omega

theorem next_ev {hs : List Int} {d : Int} {r : Int × Int} (h : Ev (fun k => calendar_Add.f k d 0 hs) r) : Ev (fun k => calendar_Next.f k d hs) r := by
  unfold calendar_Next.f
  exact Ev.bind h (Ev.now _)
theorem refNext_ev {hs : List Int} {d : Int} {r : Int × Int} (h : Ev (fun k => insolvencyref1_AddDays.f k d 0 hs) r) : Ev (fun k => insolvencyref1_NextDay.f k d hs) r := by
  unfold insolvencyref1_NextDay.f
  exact Ev.bind h (Ev.now _)
theorem near_some (x : Int) : ∃ d, insolvencylaw5_near.f x = some d := by
  unfold insolvencylaw5_near.f
  split
  · exact ⟨_, rfl⟩
  · split <;> exact ⟨_, rfl⟩

/-! ### the sanity check -/
theorem add_at (hs : List Int) (day n : Int) (d m : Nat) (h : ¬ (hs.length : Int) > 1000) (h2 : isD day = true ∧ 0 ≤ n ∧ n ≤ 1048576) (hm : mOf hs day n = (m : Int)) (hd : d ≤ 1048576) (h3 : m < cnt hs (d + 1)) (h4 : cnt hs d ≤ m) :
    Ev (fun k => calendar_Add.f k day n hs) ((d : Int), 0) := by
  obtain ⟨r, h1, k2⟩ := add_ev hs day n
  have e : IsAdd hs day n ((d : Int), 0) := IsAdd.ok h h2 (.inl ⟨d, hd, rfl, by omega, by omega⟩)
  rw [e.unique k2]
  exact h1
theorem awake_ev : Ev (fun k => insolvencylaw5_awake.f k) true := by
  have a1 := next_ev (add_at [] 5 0 7 5 (by decide) (by decide) (by decide) (by decide) (by decide) (by decide))
  have a2 := next_ev (add_at [7] 5 0 8 5 (by decide) (by decide) (by decide) (by decide) (by decide) (by decide))
  have a3 := add_at [] 3 2 7 5 (by decide) (by decide) (by decide) (by decide) (by decide) (by decide)
  unfold insolvencylaw5_awake.f
  refine Ev.bind a1 (Ev.bind a2 (Ev.bind a3 (ev_then (weekday_some 5) ?_)))
  exact ev_const (by decide)

/-! ### the package's IsBusiness -/
theorem index_ev (l : List Int) (x : Int) (hl : l.length ≤ 9223372036854775806) : ∀ (n i : Nat), i ≤ l.length → l.length - i = n →
    ∃ r, Ev (fun k => slices_Index_int_int.l0 k l x (l.length : Int) (i : Int)) r ∧ decide (r ≥ 0) = (l.drop i).contains x := by
  intro n
  induction n with
  | zero =>
    intro i hi hn
    refine ⟨-1, Ev.step (f := fun _ => some (-1)) (fun k => ?_) (Ev.now _), ?_⟩
    · rw [slices_Index_int_int.l0, if_neg (by omega)]
    · rw [List.drop_eq_nil_of_le (by omega)]
      simp
  | succ n ih =>
    intro i hi hn
    have hlt : i < l.length := by omega
    have e : l.drop i = l[i] :: l.drop (i + 1) := List.drop_eq_getElem_cons hlt
    have er : rd l (i : Int) = l[i] := rd_nat l i hlt
    rw [e, List.contains_cons]
    by_cases hd : x = l[i]
    · refine ⟨(i : Int), Ev.step (f := fun _ => some (i : Int)) (fun k => ?_) (Ev.now _), ?_⟩
      · rw [slices_Index_int_int.l0, if_pos (by omega), if_pos (by omega), if_pos (by omega), er, if_pos hd]
      · rw [show (x == l[i]) = true from by simpa using hd, Bool.true_or]
        exact decide_eq_true (by omega)
    · obtain ⟨r, hr, hc⟩ := ih (i + 1) (by omega) (by omega)
      refine ⟨r, Ev.step (f := fun k => slices_Index_int_int.l0 k l x (l.length : Int) ((i + 1 : Nat) : Int)) (fun k => ?_) hr, ?_⟩
      · rw [slices_Index_int_int.l0, if_pos (by omega), if_pos (by omega), if_pos (by omega), er, if_neg hd, w64 _ (by omega) (by omega)]
        rfl
      · rw [show (x == l[i]) = false from by simpa using hd, Bool.false_or]
        exact hc
theorem contains_ev (l : List Int) (x : Int) (hl : l.length ≤ 9223372036854775806) : Ev (fun k => slices_Contains_int_int.f k l x) (l.contains x) := by
  obtain ⟨r, hr, hc⟩ := index_ev l x hl l.length 0 (by omega) (by omega)
  rw [List.drop_zero] at hc
  unfold slices_Contains_int_int.f slices_Index_int_int.f
  refine Ev.bind (f := fun _ t => some (decide (t ≥ 0))) hr ?_
  rw [hc]
  exact Ev.now _
theorem bus_ev (hs : List Int) (d : Int) (hl : hs.length ≤ 9223372036854775806) : Ev (fun k => calendar_IsBusiness.f k d hs) (bus hs d) := by
  unfold calendar_IsBusiness.f
  refine ev_then (isDay_some d) ?_
  have hb : bus hs d = (isD d && (decide (d % 7 < 5) && !hs.contains d)) := by unfold bus isD; rw [Bool.and_assoc]
  rw [hb]
  cases isD d with
  | false => exact ev_else (by simp) (Ev.now false)
  | true =>
    refine ev_if rfl (ev_then (weekday_some d) ?_)
    by_cases h5 : d % 7 < 5
    · rw [decide_eq_true h5]
      refine ev_if h5 ?_
      simp only [Bool.true_and]
      exact Ev.bind (f := fun _ t => some (!t)) (contains_ev hs d hl) (Ev.now _)
    · rw [decide_eq_false h5]
      exact ev_else h5 (Ev.now false)

/-! ### Count -/
def countOf (hs : List Int) (a b : Int) : Int × Int :=
  if (hs.length : Int) > 1000 then (0, 2) else if isD a = true ∧ isD b = true then (if b ≤ a then (0, 0) else ((cnt hs b.toNat : Int) - (cnt hs a.toNat : Int), 0)) else (0, 1)
theorem isD_iff (d : Int) : isD d = true ↔ 0 ≤ d ∧ d ≤ 1048576 := by simp [isD]
theorem count_ev (hs : List Int) (a b : Int) : Ev (fun k => calendar_Count.f k a b hs) (countOf hs a b) := by
  unfold calendar_Count.f countOf
  by_cases h1 : (hs.length : Int) > 1000
  · rw [if_pos h1]; exact ev_if h1 (Ev.now _)
  rw [if_neg h1]
  have bad : ∀ t : Bool, t = true → Ev (fun k => calendar_Count.j0 k a b hs t) ((0, 1) : Int × Int) := by
    rintro t rfl
    refine Ev.step (f := fun _ => some (0, 1)) (fun k => ?_) (Ev.now _)
    rw [calendar_Count.j0, if_pos rfl]
  refine ev_else h1 (ev_then (isDay_some a) ?_)
  by_cases ha : isD a = true
  · refine ev_if ha (ev_then (isDay_some b) ?_)
    by_cases hb : isD b = true
    · rw [if_pos ⟨ha, hb⟩, hb]
      obtain ⟨a0, a1⟩ := (isD_iff a).1 ha
      obtain ⟨b0, b1⟩ := (isD_iff b).1 hb
      by_cases hab : b ≤ a
      · rw [if_pos hab]
        refine Ev.step (f := fun _ => some (0, 0)) (fun k => ?_) (Ev.now _)
        rw [calendar_Count.j0, if_neg (by simp), if_pos hab]
      · rw [if_neg hab]
        obtain ⟨x, rfl⟩ := Int.eq_ofNat_of_zero_le a0
        obtain ⟨y, rfl⟩ := Int.eq_ofNat_of_zero_le b0
        have hcl := closedOf_closed hs
        have hln : (closedOf hs).length ≤ 1000 := by have := closedOf_length hs; omega
        have c1 := cnt_le hs x
        have c2 := cnt_le hs y
        refine Ev.step (f := fun k => (calendar_sorted.f k hs).bind fun t => _) (fun k => ?_) (Ev.bind (f := fun _ t => (E.calendar_closed_before.f t (y : Int)).bind fun t180 => ((E.calendar_closed_before.f t (x : Int)).bind fun t181 => (some (wrap64 (t180 - t181), (0 : Int))))) (sorted_ev hs (by omega)) ?_)
        · rw [calendar_Count.j0, if_neg (by simp), if_neg hab]
        · rw [before_some hs _ hcl hln y (by omega), Option.bind_some, before_some hs _ hcl hln x (by omega), Option.bind_some, w64 _ (by omega) (by omega), Int.toNat_natCast, Int.toNat_natCast]
          exact Ev.now _
    · rw [if_neg (fun z => hb z.2)]
      exact bad _ (by simp [hb])
  · rw [if_neg (fun z => ha z.1)]
    exact ev_else ha (bad _ rfl)
theorem refCount_loop (hs : List Int) (hl : hs.length ≤ 1000) (y : Nat) (hy : y ≤ 1048576) : ∀ (j d n : Nat), d ≤ y → y - d = j → n ≤ 1048577 → n + (y - d) ≤ 1048577 →
    Ev (fun k => insolvencyref1_CountDays.l0 k (y : Int) hs (n : Int) (d : Int)) ((((n + (cnt hs y - cnt hs d) : Nat) : Int), 0) : Int × Int) := by
  intro j
  induction j with
  | zero =>
    intro d n hd hj hn hs2
    obtain rfl : d = y := by omega
    refine Ev.step (f := fun _ => some ((n : Int), 0)) (fun k => ?_) ?_
    · rw [insolvencyref1_CountDays.l0, if_neg (by omega)]
    · have e : n + (cnt hs d - cnt hs d) = n := by omega
      rw [e]
      exact ⟨0, fun _ _ => rfl⟩
  | succ j ih =>
    intro d n hd hj hn hs2
    have hb := refBus_ev hs (d : Int) (by omega)
    have hc : cnt hs (d + 1) = cnt hs d + if bus hs (d : Int) = true then 1 else 0 := rfl
    have hmono := cnt_mono hs (show d + 1 ≤ y by omega)
    refine Ev.step (f := fun k => (insolvencyref1_IsBusiness.f k (d : Int) hs).bind fun t => if t = true then (insolvencyref1_CountDays.l0 k (y : Int) hs (wrap64 ((n : Int) + 1)) (wrap64 ((d : Int) + 1))) else (insolvencyref1_CountDays.l0 k (y : Int) hs (n : Int) (wrap64 ((d : Int) + 1)))) (fun k => ?_) (Ev.bind hb ?_)
    · rw [insolvencyref1_CountDays.l0, if_pos (by omega)]
    · by_cases hbus : bus hs (d : Int) = true
      · rw [if_pos hbus] at hc
        refine ev_if hbus ?_
        rw [w64n d (by omega), w64n n (by omega)]
        have := ih (d + 1) (n + 1) (by omega) (by omega) (by omega) (by omega)
        rw [show n + 1 + (cnt hs y - cnt hs (d + 1)) = n + (cnt hs y - cnt hs d) by omega] at this
        exact this
      · rw [if_neg hbus] at hc
        refine ev_else hbus ?_
        rw [w64n d (by omega)]
        have := ih (d + 1) n (by omega) (by omega) (by omega) (by omega)
        rw [show n + (cnt hs y - cnt hs (d + 1)) = n + (cnt hs y - cnt hs d) by omega] at this
        exact this
theorem refCount_ev (hs : List Int) (a b : Int) : Ev (fun k => insolvencyref1_CountDays.f k a b hs) (countOf hs a b) := by
  unfold insolvencyref1_CountDays.f countOf
  by_cases h1 : (hs.length : Int) > 1000
  · rw [if_pos h1]; exact ev_if h1 (Ev.now _)
  rw [if_neg h1]
  have bad : ∀ t : Bool, t = true → Ev (fun k => insolvencyref1_CountDays.j0 k a b hs t) ((0, 1) : Int × Int) := by
    rintro t rfl
    refine Ev.step (f := fun _ => some (0, 1)) (fun k => ?_) (Ev.now _)
    rw [insolvencyref1_CountDays.j0, if_pos rfl]
  refine ev_else h1 (ev_then (refDay_some a) ?_)
  by_cases ha : isD a = true
  · refine ev_if ha (ev_then (refDay_some b) ?_)
    by_cases hb : isD b = true
    · rw [if_pos ⟨ha, hb⟩, hb]
      obtain ⟨a0, a1⟩ := (isD_iff a).1 ha
      obtain ⟨b0, b1⟩ := (isD_iff b).1 hb
      obtain ⟨x, rfl⟩ := Int.eq_ofNat_of_zero_le a0
      obtain ⟨y, rfl⟩ := Int.eq_ofNat_of_zero_le b0
      refine Ev.step (f := fun k => insolvencyref1_CountDays.l0 k (y : Int) hs 0 (x : Int)) (fun k => ?_) ?_
      · rw [insolvencyref1_CountDays.j0, if_neg (by simp)]
      · by_cases hab : (y : Int) ≤ (x : Int)
        · rw [if_pos hab]
          by_cases hxy : x = y
          · subst hxy
            have := refCount_loop hs (by omega) x (by omega) 0 x 0 (by omega) (by omega) (by omega) (by omega)
            rw [Nat.sub_self, Nat.add_zero] at this
            exact this
          · refine Ev.step (f := fun _ => some (0, 0)) (fun k => ?_) (Ev.now _)
            rw [insolvencyref1_CountDays.l0, if_neg (by omega)]
        · rw [if_neg hab]
          have := refCount_loop hs (by omega) y (by omega) _ x 0 (by omega) rfl (by omega) (by omega)
          have hm := cnt_mono hs (show x ≤ y by omega)
          rw [Int.toNat_natCast, Int.toNat_natCast, show (cnt hs y : Int) - (cnt hs x : Int) = ((0 + (cnt hs y - cnt hs x) : Nat) : Int) by omega]
          exact this
    · rw [if_neg (fun z => hb z.2)]
      exact bad _ (by simp [hb])
  · rw [if_neg (fun z => ha z.1)]
    exact ev_else ha (bad _ rfl)

/-! ### an answer that is a day -/
theorem res_day {hs : List Int} {m : Int} {r : Int × Int} (h : IsRes hs m r) (hm : m < (cnt hs 1048577 : Int)) : ∃ d : Nat, d ≤ 1048576 ∧ r = ((d : Int), 0) ∧ (cnt hs d : Int) = m ∧ (cnt hs (d + 1) : Int) = m + 1 := by
  rcases h with ⟨d, hd, hr, h1, h2⟩ | ⟨_, h1⟩
  · refine ⟨d, hd, hr, ?_⟩
    have : cnt hs (d + 1) = cnt hs d + if bus hs (d : Int) = true then 1 else 0 := rfl
    split at this <;> omega
  · omega

/-! ### the laws' lists -/
theorem days_loop (l : List Int) (hw : ∀ x ∈ l, 0 ≤ x ∧ x ≤ 255) (hl : l.length ≤ 140737488351232) : ∀ (n i : Nat) (acc : List Int), i ≤ l.length → i ≤ 40 → 40 - i = n → acc.length ≤ i → ∃ r, Ev (fun k => insolvencylaw5_days.l0 k l acc (i : Int)) r ∧ r.length ≤ 40 := by
  intro n
  induction n with
  | zero =>
    intro i acc hi h40 hn ha
    refine ⟨acc, Ev.step (f := fun _ => some acc) (fun k => ?_) (Ev.now _), by omega⟩
    rw [insolvencylaw5_days.l0]
    by_cases h : (i : Int) < (l.length : Int)
    · rw [if_pos h, if_neg (by omega)]
    · rw [if_neg h]
  | succ n ih =>
    intro i acc hi h40 hn ha
    by_cases h : (i : Int) < (l.length : Int)
    · obtain ⟨r, hr, hlen⟩ := ih (i + 1) (acc ++ [Int.tmod (wrap64 (rd l (i : Int))) 90]) (by omega) (by omega) (by omega) (by simp; omega)
      refine ⟨r, Ev.step (fun k => ?_) hr, hlen⟩
      rw [insolvencylaw5_days.l0, if_pos h, if_pos (by omega), if_pos (by omega), if_pos (by omega), w64 ((i : Int) + 1) (by omega) (by omega)]
      rfl
    · refine ⟨acc, Ev.step (f := fun _ => some acc) (fun k => ?_) (Ev.now _), by omega⟩
      rw [insolvencylaw5_days.l0, if_neg h]
theorem days_ev (l : List Int) (hw : ∀ x ∈ l, (Lit.int .u8 x).wf = true) (hl : l.length * 1 ≤ 140737488351232) : ∃ r, Ev (fun k => insolvencylaw5_days.f k l) r ∧ r.length ≤ 40 := by
  obtain ⟨r, h1, h2⟩ := days_loop l (fun x hx => wf8 (hw x hx)) (by omega) 40 0 [] (by omega) (by omega) (by omega) (by simp)
  exact ⟨r, h1, h2⟩
theorem wk_big : wk 1048577 = 748985 := by decide
end Go.Proofs.Ytmlhckcnpfokaaa.Hx
