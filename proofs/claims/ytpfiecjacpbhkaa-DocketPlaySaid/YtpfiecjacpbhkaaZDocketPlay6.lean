/- Part 6 of 6 of the proof of DocketPlay: texts of this claim put one behind the other by a program; each begins with its own words. -/
import Derived.Test.YtpfiecjacpbhkaaRows
import Derived.WalkKit
import Derived.ProofKit
import Derived.OpenShut
import Derived.ShutString
import Derived.ChangeOld
import Derived.Below
import Derived.SizedLaws
import Derived.Carry
import Derived.Test.YtpfiecjacpbhkaaZDocketPlay5
/- File of dockets, in the words of the plain law; what stays true of a docket and its rulings. -/
namespace Go.Proofs.Ytpfiecjacpbhkaa.D
open Go.RowKit Go.Proofs.YtpfiecjacpbhkaaW.PrintWords Go.Proofs.YtpfiecjacpbhkaaW.PrintLast Go.Proofs.YtpfiecjacpbhkaaW.PrintMore Hx Hm Go.Shelf Go.Sort
set_option linter.unusedVariables false
set_option linter.unusedSimpArgs false

/-! ### File, with Add's answer ad -/
def chgV (ad : Int × Int) (day ans app : Int) (hs : List Int) (ms : List S50) (rl : List S52) (kind at_ id opt : Int) : Dk :=
  if ad.2 ≠ 0 then dkErr ad.2 else (day, ans, app, hs, ms.set (fnd id ms 0).toNat (chgM (rd_T50 ms (fnd id ms 0)) kind ad.1 opt), if kind = 6 then rl ++ [⟨id, at_, opt⟩] else rl, 0)
def tailV (ad : Int × Int) (day ans app : Int) (hs : List Int) (ms : List S50) (rl : List S52) (kind at_ id opt : Int) : Dk :=
  if kind < 1 ∨ 6 < kind then dkErr 1
  else if kind = 1 then if (openF ms id).2 = 0 then (day, ans, app, hs, (openF ms id).1, rl, 0) else dkErr (openF ms id).2
  else if fnd id ms 0 < 0 then dkErr 11
  else if (rd_T50 ms (fnd id ms 0)).f1 ≠ kind - 1 then dkErr 13
  else if (kind = 4 ∨ kind = 6) ∧ (opt < 0 ∨ 4 ≤ opt) then dkErr 41
  else chgV (if kind = 2 ∨ kind = 4 then ad else (0, 0)) day ans app hs ms rl kind at_ id opt
def fileV (ad : Int × Int) (d ans app : Int) (hs : List Int) (ms : List S50) (kind at_ id opt : Int) : Dk :=
  if (advV d ans app hs ms at_).2.2.2.2.2.2 = 0 then tailV ad at_ ans app hs (ms.map (lapM at_)) (sortR (ms.filterMap (lapR at_))) kind at_ id opt else dkErr (advV d ans app hs ms at_).2.2.2.2.2.2

theorem ev_ite {α : Type} {c : Prop} [Decidable c] {g f : Nat → Option α} {r1 r2 : α} (h1 : c → Ev g r1) (h2 : ¬ c → Ev f r2) : Ev (fun n => if c then g n else f n) (if c then r1 else r2) := by
  by_cases h : c
  · rw [if_pos h]; exact ev_if h (h1 h)
  · rw [if_neg h]; exact ev_else h (h2 h)
theorem tail_ev (ad : Int × Int) (day ans app : Int) (hs : List Int) (ms : List S50) (rl : List S52) (kind at_ id opt : Int) (h1 : ms.length < 1000000) (h2 : rl.length < 1000000)
    (ha : Ev (fun k => F.calendar_Add.f k at_ (if kind = 2 then ans else app) hs) ad) : Ev (fun k => docket_File.tail k day ans app hs ms rl kind at_ id opt) (tailV ad day ans app hs ms rl kind at_ id opt) := by
  unfold docket_File.tail tailV
  refine ev_ite (fun _ => Ev.now _) (fun _ => ev_if (by omega) (ev_ite (fun _ => ev_ite (fun _ => Ev.now _) (fun _ => Ev.now _)) (fun _ => ev_ite (fun _ => Ev.now _) (fun _ => ev_ite (fun _ => Ev.now _) (fun _ => ev_ite (fun _ => Ev.now _) (fun _ => ?_))))))
  refine Ev.bind (a := if kind = 2 ∨ kind = 4 then ad else (0, 0)) (ev_ite (fun _ => ha) (fun _ => Ev.now _)) ?_
  generalize (if kind = 2 ∨ kind = 4 then ad else (0, 0)) = b
  unfold chgV
  refine ev_ite (fun _ => Ev.now _) (fun _ => ?_)
  by_cases c8 : kind = 6
  · simp only [if_pos c8]
    exact ev_if (by omega) (Ev.now _)
  · simp only [if_neg c8]
    exact Ev.now _

theorem advV_cases (d ans app : Int) (hs : List Int) (ms : List S50) (day : Int) : (advV d ans app hs ms day).2.2.2.2.2.2 = 0 ∧ advV d ans app hs ms day = (day, ans, app, hs, ms.map (lapM day), sortR (ms.filterMap (lapR day)), 0) ∧ chkV d ans app hs ms = 0 ∧ 0 ≤ day ∧ day ≤ 1048576 ∧ d ≤ day ∨
    (advV d ans app hs ms day).2.2.2.2.2.2 ≠ 0 ∧ advV d ans app hs ms day = dkErr (advV d ans app hs ms day).2.2.2.2.2.2 := by
  unfold advV
  by_cases c1 : chkV d ans app hs ms = 0
  · rw [if_pos c1]
    by_cases c2 : day < 0 ∨ 1048576 < day
    · rw [if_pos c2]; exact .inr ⟨by decide, rfl⟩
    · rw [if_neg c2]
      by_cases c3 : day < d
      · rw [if_pos c3]; exact .inr ⟨by decide, rfl⟩
      · rw [if_neg c3]; exact .inl ⟨rfl, rfl, c1, by omega, by omega, by omega⟩
  · rw [if_neg c1]; exact .inr ⟨c1, rfl⟩

theorem file_ev (ad : Int × Int) (d ans app : Int) (hs : List Int) (ms : List S50) (kind at_ id opt : Int) (h : ms.length ≤ 12) (ha : Ev (fun k => F.calendar_Add.f k at_ (if kind = 2 then ans else app) hs) ad) :
    Ev (fun k => docket_File.f k d ans app hs ms kind at_ id opt) (fileV ad d ans app hs ms kind at_ id opt) := by
  have hl : (ms.filterMap (lapR at_)).length ≤ 12 := Nat.le_trans (List.length_filterMap_le _ _) h
  unfold docket_File.f fileV
  refine Ev.bind (advV_ev d ans app hs ms at_ hl) ?_
  rcases advV_cases d ans app hs ms at_ with ⟨e0, e1, -⟩ | ⟨e0, e1⟩
  · rw [if_pos e0]
    refine ev_if e0 ?_
    rw [e1]
    exact tail_ev ad at_ ans app hs _ _ kind at_ id opt (by simp; omega) (by rw [ins_size]; omega) ha
  · rw [if_neg e0]
    exact ev_else e0 (Ev.now _)

/-! ### what stays true -/
def rKey (r : S52) : Int × Int := (r.f0, r.f2)
def mKey (m : S50) : Int × Int := (m.f0, m.f3)
def isFin (m : S50) : Bool := m.f1 == 6
structure Inv (d ans app : Int) (hs : List Int) (ms : List S50) (all : List S52) : Prop where
  ct : ctE d ans app hs.length = 0
  ok : ∀ m ∈ ms, 0 ≤ m.f0 ∧ m.f0 < 4 ∧ soundP d m
  nd : (ms.map (·.f0)).Nodup
  pm : (all.map rKey).Perm ((ms.filter isFin).map mKey)
  rd : ∀ r ∈ all, r.f1 ≤ d

theorem four (l : List Int) (n : Nat) (h : l.Nodup) (hb : ∀ x ∈ l, 0 ≤ x ∧ x < (n : Int)) : l.length ≤ n := by
  induction n generalizing l with
  | zero =>
    cases l with
    | nil => simp
    | cons a l =>
      have := hb a (by simp)
      omega
  | succ n ih =>
    have h1 : (l.erase (n : Int)).length ≤ n := by
      refine ih _ (h.erase _) (fun x hx => ?_)
      have h2 := hb x (List.mem_of_mem_erase hx)
      have h3 : x ≠ (n : Int) := fun e => by subst e; exact (List.Nodup.not_mem_erase h) hx
      omega
    have h4 := List.length_erase_le (a := (n : Int)) (l := l)
    have h5 : l.length ≤ (l.erase (n : Int)).length + 1 := by
      rw [List.length_erase]
      split <;> omega
    omega
theorem Inv.len {d ans app : Int} {hs : List Int} {ms : List S50} {all : List S52} (h : Inv d ans app hs ms all) : ms.length ≤ 4 := by
  have := four (ms.map (·.f0)) 4 h.nd (fun x hx => by
    obtain ⟨m, hm, rfl⟩ := List.mem_map.1 hx
    have := h.ok m hm
    exact ⟨this.1, this.2.1⟩)
  simpa using this
theorem Inv.chk {d ans app : Int} {hs : List Int} {ms : List S50} {all : List S52} (h : Inv d ans app hs ms all) : chkV d ans app hs ms = 0 := by
  unfold chkV
  have hl := h.len
  rw [if_pos h.ct, if_neg (by omega), chkL_ok]
  exact ⟨fun m hm => ⟨(h.ok m hm).1, (h.ok m hm).2.2⟩, h.nd, fun m hm x hx => by cases hx⟩
theorem Inv.all_len {d ans app : Int} {hs : List Int} {ms : List S50} {all : List S52} (h : Inv d ans app hs ms all) : all.length ≤ 4 := by
  have h1 := h.pm.length_eq
  rw [List.length_map, List.length_map] at h1
  have h2 := List.length_filter_le isFin ms
  have := h.len
  omega
theorem sort_perm (l : List S52) : (sortR l).Perm l := by
  have h := (Sort.insertionSort_holds (lt := ltOf rulCmp) rul_swo l.toArray 0 l.length (Nat.zero_le _) (by simp)).1
  unfold sortR
  have h1 := h.2.2
  have h2 : (Sort.insertionSort (ltOf rulCmp) l.toArray 0 l.length).size = l.length := by simpa using h.1
  generalize Sort.insertionSort (ltOf rulCmp) l.toArray 0 l.length = S at *
  have h3 : S.extract 0 l.length = S := by rw [← h2]; exact Array.extract_size
  rw [h3] at h1
  simpa using h1

theorem lap_perm (day : Int) : ∀ ms : List S50, (((ms.filter isFin).map mKey) ++ ((ms.filterMap (lapR day)).map rKey)).Perm (((ms.map (lapM day)).filter isFin).map mKey)
  | [] => by simp
  | m :: r => by
    have ih := lap_perm day r
    by_cases h : lapses day m
    · have e1 : lapR day m = some ⟨m.f0, wrap64 (m.f2 + 1), m.f3⟩ := if_pos h
      have e2 : lapM day m = ⟨m.f0, 6, 0, m.f3, m.f1 == 2⟩ := if_pos h
      have e3 : isFin m = false := by unfold isFin; have := h.1; simp; omega
      have g1 : (m :: r).filter isFin = r.filter isFin := List.filter_cons_of_neg (by simp [e3])
      have g2 : (m :: r).filterMap (lapR day) = ⟨m.f0, wrap64 (m.f2 + 1), m.f3⟩ :: r.filterMap (lapR day) := by rw [List.filterMap_cons, e1]
      have g3 : ((m :: r).map (lapM day)).filter isFin = ⟨m.f0, 6, 0, m.f3, m.f1 == 2⟩ :: (r.map (lapM day)).filter isFin := by rw [List.map_cons, e2, List.filter_cons_of_pos (by rfl)]
      rw [g1, g2, g3, List.map_cons, List.map_cons]
      refine List.perm_middle.trans ?_
      exact List.Perm.cons _ ih
    · have e1 : lapR day m = none := if_neg h
      have e2 : lapM day m = m := if_neg h
      have g2 : (m :: r).filterMap (lapR day) = r.filterMap (lapR day) := by rw [List.filterMap_cons, e1]
      have g4 : (m :: r).map (lapM day) = m :: r.map (lapM day) := by rw [List.map_cons, e2]
      rw [g2, g4]
      by_cases hf : isFin m = true
      · rw [List.filter_cons_of_pos hf, List.filter_cons_of_pos hf, List.map_cons, List.map_cons, List.cons_append]
        exact List.Perm.cons _ ih
      · rw [List.filter_cons_of_neg hf, List.filter_cons_of_neg hf]
        exact ih
theorem lapM_id (day : Int) (m : S50) : (lapM day m).f0 = m.f0 := by unfold lapM; split <;> rfl
theorem lap_sound {d day : Int} {m : S50} (hd : d ≤ day) (h : soundP d m) : soundP day (lapM day m) := by
  unfold lapM
  by_cases hl : lapses day m
  · rw [if_pos hl]
    obtain ⟨h1, h2, h3, h4⟩ := h
    refine ⟨⟨(by decide : (1 : Int) ≤ 6), (by decide : (6 : Int) ≤ 6), h1.2.2.1, h1.2.2.2⟩, .inr ⟨(by decide : ¬ ((6 : Int) = 2 ∨ (6 : Int) = 4)), rfl⟩, fun h => absurd h (by decide : ¬ (6 : Int) ≤ 3), fun hb => ⟨rfl, ?_⟩⟩
    have : m.f1 = 2 := by simpa using hb
    exact h3 (by omega)
  · rw [if_neg hl]
    obtain ⟨h1, h2, h3, h4⟩ := h
    refine ⟨h1, ?_, h3, h4⟩
    unfold lapses at hl
    omega
theorem Inv.adv {d ans app : Int} {hs : List Int} {ms : List S50} {all : List S52} (h : Inv d ans app hs ms all) (day : Int) (h1 : d ≤ day) (h2 : day ≤ 1048576) :
    Inv day ans app hs (ms.map (lapM day)) (all ++ sortR (ms.filterMap (lapR day))) := by
  have hd : 0 ≤ d := by
    have := h.ct
    unfold ctE at this
    split at this
    · cases this
    · omega
  refine ⟨?_, ?_, ?_, ?_, ?_⟩
  · have := h.ct
    unfold ctE at this ⊢
    split at this
    · cases this
    · rw [if_neg (by omega)]; exact this
  · intro x hx
    obtain ⟨m, hm, rfl⟩ := List.mem_map.1 hx
    have := h.ok m hm
    rw [lapM_id]
    exact ⟨this.1, this.2.1, lap_sound h1 this.2.2⟩
  · rw [List.map_map]
    have e : ((fun x : S50 => x.f0) ∘ lapM day) = (fun x => x.f0) := by funext m; exact lapM_id day m
    rw [e]
    exact h.nd
  · rw [List.map_append]
    refine (List.Perm.append h.pm ((sort_perm _).map rKey)).trans ?_
    exact lap_perm day ms
  · intro r hr
    rcases List.mem_append.1 hr with hr | hr
    · have := h.rd r hr; omega
    · have hr2 := (sort_perm _).mem_iff.1 hr
      obtain ⟨m, hm, he⟩ := List.mem_filterMap.1 hr2
      unfold lapR at he
      by_cases hl : lapses day m
      · rw [if_pos hl] at he
        obtain rfl := Option.some.inj he
        have h3 := (h.ok m hm).2.2.2.1
        have h4 := hl.1
        have h5 := hl.2
        show wrap64 (m.f2 + 1) ≤ day
        rw [w64 _ (by omega) (by omega)]
        omega
      · rw [if_neg hl] at he
        cases he

theorem Inv.new {ans app : Int} {hs : List Int} (h : ctE 0 ans app hs.length = 0) : Inv 0 ans app hs [] [] := ⟨h, (fun m hm => by cases hm), List.nodup_nil, List.Perm.refl _, (fun r hr => by cases hr)⟩

theorem fnd_split (x : Int) : ∀ (l : List S50) (i : Nat), 0 ≤ fnd x l i → ∃ A m B, l = A ++ m :: B ∧ fnd x l i = ((i + A.length : Nat) : Int) ∧ m.f0 = x
  | [], i, h => by simp [fnd] at h
  | y :: r, i, h => by
    unfold fnd at h ⊢
    by_cases he : y.f0 = x
    · rw [if_pos he]
      exact ⟨[], y, r, rfl, by simp, he⟩
    · rw [if_neg he] at h ⊢
      obtain ⟨A, m, B, rfl, h2, h3⟩ := fnd_split x r (i + 1) h
      exact ⟨y :: A, m, B, rfl, by rw [h2]; simp; omega, h3⟩

/-- The answer of Add, as_ far as_ the docket needs it. -/
theorem add_later {hs : List Int} {day n : Int} {ad : Int × Int} (h : IsAdd hs day n ad) (hn : 1 ≤ n) (h0 : ad.2 = 0) : day < ad.1 ∧ ad.1 ≤ 1048576 := by
  unfold IsAdd at h
  by_cases h1 : (hs.length : Int) > 1000
  · rw [if_pos h1] at h; subst h; cases h0
  rw [if_neg h1] at h
  by_cases h2 : isD day = true ∧ 0 ≤ n ∧ n ≤ 1048576
  · rw [if_pos h2] at h
    have hd : 0 ≤ day := by
      have := h2.1
      unfold isD at this
      simp at this
      exact this.1
    rcases h with ⟨d, hd2, rfl, h3, h4⟩ | ⟨rfl, _⟩
    · refine ⟨?_, by show (d : Int) ≤ _; omega⟩
      unfold mOf at h3
      rw [if_neg (by omega)] at h3
      have hlt : ¬ d + 1 ≤ day.toNat + 1 := fun hle => by have := cnt_mono hs hle; omega
      show day < (d : Int)
      omega
    · cases h0
  · rw [if_neg h2] at h; subst h; cases h0

theorem chg_sound {day : Int} {m : S50} {kind due opt : Int} (h : soundP day m) (hk : 2 ≤ kind ∧ kind ≤ 6) (hst : m.f1 = kind - 1) (ho : ¬ ((kind = 4 ∨ kind = 6) ∧ (opt < 0 ∨ 4 ≤ opt)))
    (hdue : (kind = 2 ∨ kind = 4) ∧ day < due ∧ due ≤ 1048576 ∨ ¬ (kind = 2 ∨ kind = 4) ∧ due = 0) : soundP day (chgM m kind due opt) := by
  obtain ⟨h1, h2, h3, h4⟩ := h
  have hf : ¬ m.f4 = true := fun hb => by have := (h4 hb).1; omega
  unfold chgM
  by_cases hk46 : kind = 4 ∨ kind = 6
  · simp only [if_pos hk46]
    refine ⟨⟨?_, ?_, ?_, ?_⟩, ?_, ?_, fun hb => absurd hb hf⟩ <;> show _ <;> dsimp only <;> omega
  · simp only [if_neg hk46]
    refine ⟨⟨?_, ?_, ?_, ?_⟩, ?_, ?_, fun hb => absurd hb hf⟩ <;> show _ <;> dsimp only <;> omega

theorem Inv.tail {day ans app : Int} {hs : List Int} {ms : List S50} {all rl : List S52} (h : Inv day ans app hs ms (all ++ rl)) (ad : Int × Int) (kind id opt : Int) (hid : 0 ≤ id ∧ id < 4)
    (ha : IsAdd hs day (if kind = 2 then ans else app) ad) (he : (tailV ad day ans app hs ms rl kind day id opt).2.2.2.2.2.2 = 0) :
    ∃ ms2 rl2, tailV ad day ans app hs ms rl kind day id opt = (day, ans, app, hs, ms2, rl2, 0) ∧ Inv day ans app hs ms2 (all ++ rl2) := by
  have hct := h.ct
  have hans : 1 ≤ ans ∧ 1 ≤ app := by
    unfold ctE at hct
    split at hct
    · cases hct
    · split at hct
      · cases hct
      · split at hct
        · cases hct
        · omega
  unfold tailV at he ⊢
  by_cases c1 : kind < 1 ∨ 6 < kind
  · rw [if_pos c1] at he; cases he
  rw [if_neg c1] at he ⊢
  by_cases c2 : kind = 1
  · rw [if_pos c2] at he ⊢
    by_cases c3 : (openF ms id).2 = 0
    · rw [if_pos c3]
      refine ⟨_, _, rfl, ?_⟩
      unfold openF at c3 ⊢
      rw [if_neg (by omega)] at c3 ⊢
      by_cases c4 : 0 ≤ fnd id ms 0
      · rw [if_pos c4] at c3; cases c3
      rw [if_neg c4] at c3 ⊢
      by_cases c5 : (ms.length : Int) ≥ 32
      · rw [if_pos c5] at c3; cases c3
      rw [if_neg c5]
      have hno : ∀ m ∈ ms, m.f0 ≠ id := fun m hm hi => c4 (by rw [fnd_any]; exact List.any_eq_true.2 ⟨m, hm, by simpa using hi⟩)
      refine ⟨hct, fun m hm => ?_, ?_, ?_, h.rd⟩
      · rcases List.mem_append.1 hm with hm | hm
        · exact h.ok m hm
        · obtain rfl : m = ⟨id, 1, 0, 0, false⟩ := by simpa using hm
          exact ⟨hid.1, hid.2, ⟨(by decide : (1 : Int) ≤ 1), (by decide : (1 : Int) ≤ 6), (by decide : (0 : Int) ≤ 0), (by decide : (0 : Int) < 4)⟩, .inr ⟨(by decide : ¬ ((1 : Int) = 2 ∨ (1 : Int) = 4)), rfl⟩, fun _ => rfl, fun hb => by cases hb⟩
      · simp only [List.map_append, List.map_cons, List.map_nil]
        rw [List.nodup_append]
        refine ⟨h.nd, by simp, fun x hx y hy => ?_⟩
        obtain ⟨m, hm, rfl⟩ := List.mem_map.1 hx
        obtain rfl : y = id := by simpa using hy
        exact hno m hm
      · have e : (ms ++ [(⟨id, 1, 0, 0, false⟩ : S50)]).filter isFin = ms.filter isFin := by
          rw [List.filter_append]
          have : [(⟨id, 1, 0, 0, false⟩ : S50)].filter isFin = [] := rfl
          rw [this, List.append_nil]
        show (_ : List (Int × Int)).Perm (((ms ++ [(⟨id, 1, 0, 0, false⟩ : S50)]).filter isFin).map mKey)
        rw [e]
        exact h.pm
    · rw [if_neg c3] at he
      exact absurd he c3
  rw [if_neg c2] at he ⊢
  by_cases c3 : fnd id ms 0 < 0
  · rw [if_pos c3] at he; cases he
  rw [if_neg c3] at he ⊢
  obtain ⟨A, m, B, hms, hf, hm0⟩ := fnd_split id ms 0 (by omega)
  rw [Nat.zero_add] at hf
  have hmem : m ∈ ms := by rw [hms]; simp
  have hrd : rd_T50 ms (fnd id ms 0) = m := by rw [hf, hms]; exact rd_mid A B m
  rw [hrd] at he ⊢
  by_cases c4 : m.f1 ≠ kind - 1
  · rw [if_pos c4] at he; cases he
  rw [if_neg c4] at he ⊢
  by_cases c5 : (kind = 4 ∨ kind = 6) ∧ (opt < 0 ∨ 4 ≤ opt)
  · rw [if_pos c5] at he; cases he
  rw [if_neg c5] at he ⊢
  have hb0 : (if kind = 2 ∨ kind = 4 then ad else (0, 0)).2 = 0 → (kind = 2 ∨ kind = 4) ∧ day < (if kind = 2 ∨ kind = 4 then ad else (0, 0)).1 ∧ (if kind = 2 ∨ kind = 4 then ad else (0, 0)).1 ≤ 1048576 ∨ ¬ (kind = 2 ∨ kind = 4) ∧ (if kind = 2 ∨ kind = 4 then ad else (0, 0)).1 = 0 := by
    by_cases c6 : kind = 2 ∨ kind = 4
    · rw [if_pos c6]
      intro h0
      exact .inl ⟨c6, add_later ha (by split <;> omega) h0⟩
    · rw [if_neg c6]
      intro _
      exact .inr ⟨c6, rfl⟩
  generalize (if kind = 2 ∨ kind = 4 then ad else (0, 0)) = b at *
  unfold chgV at he ⊢
  by_cases c7 : b.2 ≠ 0
  · rw [if_pos c7] at he; exact absurd he c7
  rw [if_neg c7]
  have hs := chg_sound (m := m) (kind := kind) (due := b.1) (opt := opt) (h.ok m hmem).2.2 (by omega) (by omega) c5 (hb0 (by omega))
  have hset : ms.set (fnd id ms 0).toNat (chgM m kind b.1 opt) = A ++ chgM m kind b.1 opt :: B := by rw [hf, hms]; exact set_mid A B m _
  rw [hrd, hset]
  have hok : ∀ x ∈ A ++ chgM m kind b.1 opt :: B, 0 ≤ x.f0 ∧ x.f0 < 4 ∧ soundP day x := by
    intro x hx
    rcases List.mem_append.1 hx with hx | hx
    · exact h.ok x (by rw [hms]; simp [hx])
    · rcases List.mem_cons.1 hx with rfl | hx
      · have := h.ok m hmem
        exact ⟨this.1, this.2.1, hs⟩
      · exact h.ok x (by rw [hms]; simp [hx])
  have hnd : ((A ++ chgM m kind b.1 opt :: B).map (·.f0)).Nodup := by
    have := h.nd
    rw [hms] at this
    simpa [chgM] using this
  have hmf : isFin m = false := by unfold isFin; simp; omega
  have hold : ms.filter isFin = A.filter isFin ++ B.filter isFin := by rw [hms, List.filter_append, List.filter_cons_of_neg (by simp [hmf])]
  refine ⟨_, _, rfl, ?_⟩
  by_cases c8 : kind = 6
  · rw [if_pos c8]
    refine ⟨hct, hok, hnd, ?_, fun r hr => ?_⟩
    · have e : (A ++ chgM m kind b.1 opt :: B).filter isFin = A.filter isFin ++ chgM m kind b.1 opt :: B.filter isFin := by
        rw [List.filter_append, List.filter_cons_of_pos (by unfold isFin chgM; simpa using c8)]
      have hk : mKey (chgM m kind b.1 opt) = rKey ⟨id, day, opt⟩ := by
        unfold mKey rKey chgM
        simp only [if_pos (Or.inr c8), hm0]
      have l1 : (all ++ (rl ++ [(⟨id, day, opt⟩ : S52)])).map rKey = (all ++ rl).map rKey ++ [rKey ⟨id, day, opt⟩] := by simp
      have l2 : (A.filter isFin ++ chgM m kind b.1 opt :: B.filter isFin).map mKey = (A.filter isFin).map mKey ++ mKey (chgM m kind b.1 opt) :: (B.filter isFin).map mKey := by simp
      rw [e, l1, l2, hk]
      have hp := h.pm
      rw [hold] at hp
      refine (List.Perm.append_right _ hp).trans ?_
      rw [List.map_append]
      rw [List.append_assoc]
      refine List.Perm.append_left _ ?_
      exact List.perm_append_singleton _ _
    · rw [← List.append_assoc] at hr
      rcases List.mem_append.1 hr with hr | hr
      · exact h.rd r hr
      · obtain rfl : r = ⟨id, day, opt⟩ := by simpa using hr
        exact Int.le_refl _
  · rw [if_neg c8]
    refine ⟨hct, hok, hnd, ?_, h.rd⟩
    have e : (A ++ chgM m kind b.1 opt :: B).filter isFin = A.filter isFin ++ B.filter isFin := by
      rw [List.filter_append, List.filter_cons_of_neg (by unfold isFin chgM; simpa using c8)]
    rw [e, ← hold]
    exact h.pm

theorem Inv.file {d ans app : Int} {hs : List Int} {ms : List S50} {all : List S52} (h : Inv d ans app hs ms all) (ad : Int × Int) (kind at_ id opt : Int) (hid : 0 ≤ id ∧ id < 4)
    (ha : IsAdd hs at_ (if kind = 2 then ans else app) ad) (he : (fileV ad d ans app hs ms kind at_ id opt).2.2.2.2.2.2 = 0) :
    ∃ ms2 rl2, fileV ad d ans app hs ms kind at_ id opt = (at_, ans, app, hs, ms2, rl2, 0) ∧ Inv at_ ans app hs ms2 (all ++ rl2) ∧ d ≤ at_ ∧ at_ ≤ 1048576 := by
  unfold fileV at he ⊢
  rcases advV_cases d ans app hs ms at_ with ⟨e0, e1, e2, e3, e4, e5⟩ | ⟨e0, e1⟩
  · rw [if_pos e0] at he ⊢
    obtain ⟨ms2, rl2, h1, h2⟩ := (h.adv at_ e5 e4).tail ad kind id opt hid ha he
    exact ⟨ms2, rl2, h1, h2, e5, e4⟩
  · rw [if_neg e0] at he
    exact absurd he e0
end Go.Proofs.Ytpfiecjacpbhkaa.D

/- What the laws of dockets make of their arguments: terms and filings. -/
namespace Go.Proofs.Ytpfiecjacpbhkaa.D
open Go.RowKit Go.Proofs.YtpfiecjacpbhkaaW.PrintWords Go.Proofs.YtpfiecjacpbhkaaW.PrintLast Go.Proofs.YtpfiecjacpbhkaaW.PrintMore Hx Hm
set_option linter.unusedVariables false
set_option linter.unusedSimpArgs false

theorem u8_of {a : Int} (h : (Lit.int .u8 a).wf = true) : 0 ≤ a ∧ a < 256 := by
  simp [Lit.wf, IntKind.min, IntKind.max, IntKind.signed, IntKind.bits] at h
  omega
theorem tm (a n : Int) (h : 0 ≤ a ∧ a < 256) (hn : 0 < n ∧ n < 1000) : wrap64 (Int.tmod a n) = a % n := by
  rw [tmod_pos _ _ h.1, w64 _ (by have := Int.emod_nonneg a (show n ≠ 0 by omega); omega) (by have := Int.emod_lt_of_pos a hn.1; omega)]
theorem terms_loop (l : List Int) (x y : Int) : ∀ (n i : Nat) (acc : List Int), i ≤ 6 → 6 - i = n → acc.length ≤ i → ∃ hs, Ev (fun k => insolvencylaw0_Terms.l0 k l (i : Int) x y acc) (x, y, hs) ∧ hs.length ≤ 6
  | 0, i, acc, h1, h2, h3 => by
    by_cases hl : (i : Int) < (l.length : Int)
    · exact ⟨acc, Ev.step (fun k => rfl) (ev_if hl (ev_else (by omega) (Ev.now _))), by omega⟩
    · exact ⟨acc, Ev.step (fun k => rfl) (ev_else hl (Ev.now _)), by omega⟩
  | n + 1, i, acc, h1, h2, h3 => by
    by_cases hl : (i : Int) < (l.length : Int)
    · obtain ⟨hs, h4, h5⟩ := terms_loop l x y n (i + 1) (acc ++ [wrap64 (Int.tmod (rd l (i : Int)) 60)]) (by omega) (by omega) (by simp; omega)
      refine ⟨hs, Ev.step (fun k => rfl) (ev_if hl (ev_if (by omega) (ev_if (by omega) (ev_if (by omega) ?_)))), h5⟩
      rw [w64 _ (by omega) (by omega), show (i : Int) + 1 = ((i + 1 : Nat) : Int) by omega]
      exact h4
    · exact ⟨acc, Ev.step (fun k => rfl) (ev_else hl (Ev.now _)), by omega⟩
theorem terms_ev (a b : Int) (l : List Int) (ha : 0 ≤ a ∧ a < 256) (hb : 0 ≤ b ∧ b < 256) : ∃ hs, Ev (fun k => insolvencylaw0_Terms.f k a b l) (1 + a % 8, 1 + b % 8, hs) ∧ hs.length ≤ 6 ∧ ∀ d, 0 ≤ d → d ≤ 1048576 → ctE d (1 + a % 8) (1 + b % 8) hs.length = 0 := by
  unfold insolvencylaw0_Terms.f
  rw [tm a 8 ha (by omega), tm b 8 hb (by omega), w64 (1 + a % 8) (by omega) (by omega), w64 (1 + b % 8) (by omega) (by omega)]
  obtain ⟨hs, h1, h2⟩ := terms_loop l (1 + a % 8) (1 + b % 8) 6 0 [] (by omega) rfl (by simp)
  refine ⟨hs, h1, h2, fun d h3 h4 => ?_⟩
  unfold ctE
  rw [if_neg (by omega), if_neg (by omega), if_neg (by omega)]

theorem mat_props : ∀ (l : List S83) (day : Int) (st : Int → Int), (∀ x ∈ l, Ho.ok83 x) → 0 ≤ day → day + 3 * l.length ≤ 1000000 → ∀ y ∈ matGo l day st, (0 ≤ y.f2 ∧ y.f2 < 4) ∧ 0 ≤ y.f1 ∧ y.f1 ≤ day + 3 * l.length
  | [], day, st, h, h0, h1, y, hy => by cases hy
  | x :: r, day, st, h, h0, h1, y, hy => by
    obtain ⟨w0, w1, w2, w3⟩ := h x (by simp)
    have q1 := tm x.f1 4 (u8_of w1) (by omega)
    have q2 := tm x.f2 4 (u8_of w2) (by omega)
    have hlen : ((x :: r).length : Int) = (r.length : Int) + 1 := by simp
    rw [hlen] at h1 ⊢
    unfold matGo at hy
    rw [q1, q2, w64 (day + x.f1 % 4) (by omega) (by omega)] at hy
    have ih := fun st' hy' => mat_props r (day + x.f1 % 4) st' (fun z hz => h z (by simp [hz])) (by omega) (by omega) y hy'
    by_cases c : 6 ≤ st (x.f2 % 4)
    · rw [if_pos c] at hy
      have := ih _ hy
      omega
    · rw [if_neg c] at hy
      rcases List.mem_cons.1 hy with rfl | hy
      · refine ⟨?_, ?_, ?_⟩ <;> dsimp only <;> omega
      · have := ih _ hy
        omega
theorem mat_len : ∀ (l : List S83) (day : Int) (st : Int → Int), (matGo l day st).length ≤ l.length
  | [], _, _ => Nat.le_refl _
  | x :: r, day, st => by
    unfold matGo
    split
    · have := mat_len r (wrap64 (day + wrap64 (Int.tmod x.f1 4))) st
      simp; omega
    · have := mat_len r (wrap64 (day + wrap64 (Int.tmod x.f1 4))) (fun i => if i = wrap64 (Int.tmod x.f2 4) then wrap64 (st (wrap64 (Int.tmod x.f2 4)) + 1) else st i)
      simp; omega
theorem mats_ev (l : List S83) (h : ∀ x ∈ l, Ho.ok83 x) : ∃ fl, Ev (fun k => law0_Matters.f k l) fl ∧ fl.length ≤ 24 ∧ ∀ y ∈ fl, (0 ≤ y.f2 ∧ y.f2 < 4) ∧ 0 ≤ y.f1 ∧ y.f1 ≤ 72 := by
  have hl : (l.take 24).length ≤ 24 := by rw [List.length_take]; omega
  refine ⟨_, Ev.now _, Nat.le_trans (mat_len _ _ _) hl, fun y hy => ?_⟩
  have := mat_props (l.take 24) 0 (fun _ => 0) (fun x hx => h x (List.mem_of_mem_take hx)) (by omega) (by omega) y hy
  omega
end Go.Proofs.Ytpfiecjacpbhkaa.D

/- The reference's Check, Advance and File, in the words of the plain law: the same as_ docket's. -/
namespace Go.Proofs.Ytpfiecjacpbhkaa.D
open Go.RowKit Go.Proofs.YtpfiecjacpbhkaaW.PrintWords Go.Proofs.YtpfiecjacpbhkaaW.PrintLast Go.Proofs.YtpfiecjacpbhkaaW.PrintMore Hx Hm Go.Shelf Go.Sort
set_option linter.unusedVariables false
set_option linter.unusedSimpArgs false

/-! ### the rulings in their order -/
def leR (x y : S52) : Prop := ¬ (y.f1 < x.f1 ∨ y.f1 = x.f1 ∧ y.f0 < x.f0)
theorem gtR_iff (x r : S52) : (gtR x r = true) ↔ ¬ leR x r := by
  unfold gtR leR
  simp
  omega
theorem shR_get (p : Nat) : ∀ (j : Nat) (L : List S52), j < L.length → ∀ k : Nat, (shR L p j)[k]? = if p < k ∧ k ≤ j then L[k - 1]? else L[k]?
  | 0, L, h, k => by
    rw [shR, if_neg (by omega)]
  | j + 1, L, h, k => by
    unfold shR
    by_cases c : p < j + 1
    · rw [if_pos c, shR_get p j _ (by rw [List.length_set]; omega) k]
      have e : rd_T52 L (j : Int) = L[j] := by
        unfold rd_T52
        rw [Int.toNat_natCast, List.getD_eq_getElem?_getD, List.getElem?_eq_getElem (by omega)]
        rfl
      rw [e]
      by_cases c1 : p < k ∧ k ≤ j
      · rw [if_pos c1, if_pos (by omega), List.getElem?_set_ne (by omega)]
      · rw [if_neg c1]
        by_cases c2 : k = j + 1
        · subst c2
          rw [if_pos (by omega), List.getElem?_set_self (by omega), Nat.add_sub_cancel, List.getElem?_eq_getElem (by omega)]
        · rw [if_neg (by omega), List.getElem?_set_ne (by omega)]
    · rw [if_neg c, if_neg (by omega)]
theorem insR_eq (l : List S52) (r : S52) : insR l r = l.take (posR l r l.length) ++ r :: l.drop (posR l r l.length) := by
  have hp := posR_le l r l.length
  unfold insR
  generalize posR l r l.length = p at *
  apply List.ext_getElem?
  intro k
  rw [List.getElem?_set, shR_length]
  by_cases c : p = k
  · subst c
    rw [if_pos rfl, if_pos (by simp; omega), List.getElem?_append_right (by rw [List.length_take]; omega), List.length_take, Nat.min_eq_left hp, Nat.sub_self]
    rfl
  · rw [if_neg c, shR_get p l.length _ (by simp)]
    by_cases c1 : p < k ∧ k ≤ l.length
    · rw [if_pos c1, List.getElem?_append_left (by omega), List.getElem?_append_right (by rw [List.length_take]; omega), List.length_take, Nat.min_eq_left hp]
      obtain ⟨m, rfl⟩ : ∃ m, k = p + m + 1 := ⟨k - p - 1, by omega⟩
      rw [show p + m + 1 - p = m + 1 by omega, List.getElem?_cons_succ, List.getElem?_drop, show p + m + 1 - 1 = p + m by omega]
    · rw [if_neg c1]
      by_cases c2 : k < p
      · rw [List.getElem?_append_left (by omega), List.getElem?_append_left (by rw [List.length_take]; omega), List.getElem?_take_of_lt c2]
      · rw [List.getElem?_eq_none (by simp; omega), List.getElem?_eq_none (by simp; omega)]
theorem insR_perm (l : List S52) (r : S52) : (insR l r).Perm (l ++ [r]) := by
  rw [insR_eq]
  refine List.perm_middle.trans ?_
  rw [List.take_append_drop]
  exact (List.perm_append_singleton r l).symm
theorem posR_spec (l : List S52) (r : S52) : ∀ k, k ≤ l.length → (∀ j (h : j < l.length), posR l r k ≤ j → j < k → ¬ leR l[j] r) ∧ ∀ (h : posR l r k - 1 < l.length), 0 < posR l r k → leR l[posR l r k - 1] r
  | 0, hk => by
    rw [posR]
    exact ⟨fun j h h1 h2 => by omega, fun h h0 => by omega⟩
  | k + 1, hk => by
    have e : rd_T52 l (k : Int) = l[k] := by
      unfold rd_T52
      rw [Int.toNat_natCast, List.getD_eq_getElem?_getD, List.getElem?_eq_getElem (by omega)]
      rfl
    by_cases c : gtR l[k] r = true
    · have hp : posR l r (k + 1) = posR l r k := by rw [posR, e, if_pos c]
      rw [hp]
      have ih := posR_spec l r k (by omega)
      refine ⟨fun j h h1 h2 => ?_, ih.2⟩
      by_cases c2 : j = k
      · subst c2
        exact (gtR_iff _ _).1 c
      · exact ih.1 j h h1 (by omega)
    · have hp : posR l r (k + 1) = k + 1 := by rw [posR, e, if_neg c]
      rw [hp]
      refine ⟨fun j h h1 h2 => by omega, fun h h0 => ?_⟩
      rw [gtR_iff] at c
      simp only [Nat.add_sub_cancel]
      exact Classical.not_not.1 c
theorem leR_trans {x y z : S52} (h1 : leR x y) (h2 : leR y z) : leR x z := by
  unfold leR at *
  omega
theorem leR_total {x y : S52} (h : ¬ leR x y) : leR y x := by
  unfold leR at *
  omega
theorem insR_sorted (l : List S52) (r : S52) (h : l.Pairwise leR) : (insR l r).Pairwise leR := by
  rw [insR_eq]
  have hp := posR_le l r l.length
  have hs := posR_spec l r l.length (Nat.le_refl _)
  generalize posR l r l.length = p at *
  have hl : ∀ x ∈ l.take p, leR x r := by
    intro x hx
    obtain ⟨j, hj, rfl⟩ := List.mem_iff_getElem.1 hx
    rw [List.length_take] at hj
    rw [List.getElem_take]
    have h1 := hs.2 (by omega) (by omega)
    by_cases c : j = p - 1
    · subst c; exact h1
    · exact leR_trans ((List.pairwise_iff_getElem.1 h) j (p - 1) (by omega) (by omega) (by omega)) h1
  have hr : ∀ y ∈ l.drop p, leR r y := by
    intro y hy
    obtain ⟨j, hj, rfl⟩ := List.mem_iff_getElem.1 hy
    rw [List.length_drop] at hj
    rw [List.getElem_drop]
    exact leR_total (hs.1 (p + j) (by omega) (by omega) (by omega))
  rw [List.pairwise_append, List.pairwise_cons]
  refine ⟨h.sublist (List.take_sublist _ _), ⟨hr, h.sublist (List.drop_sublist _ _)⟩, fun x hx y hy => ?_⟩
  rcases List.mem_cons.1 hy with rfl | hy
  · exact hl x hx
  · exact leR_trans (hl x hx) (hr y hy)
theorem sortR_sorted (l : List S52) : (sortR l).Pairwise leR := by
  have h := (Go.Sort.insertionSort_holds (lt := ltOf rulCmp) rul_swo l.toArray 0 l.length (Nat.zero_le _) (by simp))
  unfold sortR
  have h2 : (Sort.insertionSort (ltOf rulCmp) l.toArray 0 l.length).size = l.length := by simpa using h.1.1
  have h3 := h.2
  generalize Sort.insertionSort (ltOf rulCmp) l.toArray 0 l.length = S at *
  rw [List.pairwise_iff_getElem]
  intro i j hi hj hij
  have h4 := h3 i j (Nat.zero_le _) hij (by rw [← h2]; simpa using hj)
  rw [rul_lt, decide_eq_false_iff_not] at h4
  have e1 : S[i]! = S.toList[i] := by rw [getElem!_pos S i (by simpa using hi)]; rfl
  have e2 : S[j]! = S.toList[j] := by rw [getElem!_pos S j (by simpa using hj)]; rfl
  rw [e1, e2] at h4
  exact h4
theorem sort_unique (l1 l2 : List S52) (hp : l1.Perm l2) (h1 : l1.Pairwise leR) (h2 : l2.Pairwise leR) (hn : (l1.map (·.f0)).Nodup) : l1 = l2 := by
  refine List.Perm.eq_of_pairwise (le := leR) (fun a b ha hb hab hba => ?_) h1 h2 hp
  have he : a.f0 = b.f0 := by unfold leR at hab hba; omega
  have hb1 := hp.mem_iff.2 hb
  clear hab hba h1 h2 hp hb
  induction l1 with
  | nil => cases ha
  | cons x r ih =>
    rw [List.map_cons, List.nodup_cons] at hn
    rcases List.mem_cons.1 ha with e1 | ha' <;> rcases List.mem_cons.1 hb1 with e2 | hb'
    · rw [e1, e2]
    · exact (hn.1 (List.mem_map.2 ⟨b, hb', by rw [← he, e1]⟩)).elim
    · exact (hn.1 (List.mem_map.2 ⟨a, ha', by rw [he, e2]⟩)).elim
    · exact ih hn.2 ha' hb'

/-! ### lapsed -/
theorem insAll (rest : List S52) : ∀ l : List S52, l.Pairwise leR → (rest.foldl insR l).Pairwise leR ∧ (rest.foldl insR l).Perm (l ++ rest) := by
  induction rest with
  | nil => exact fun l h => ⟨h, by simp⟩
  | cons r rest ih =>
    intro l h
    obtain ⟨h1, h2⟩ := ih (insR l r) (insR_sorted l r h)
    refine ⟨h1, h2.trans ?_⟩
    have := (insR_perm l r).append_right rest
    simpa using this
theorem lapGo_eq (day : Int) : ∀ (rest done : List S50) (l : List S52), lapGo day rest.length (done ++ rest) l done.length = (done ++ rest.map (lapM day), (rest.filterMap (lapR day)).foldl insR l)
  | [], done, l => by simp [lapGo]
  | m :: r, done, l => by
    rw [List.length_cons, lapGo, rd_mid]
    by_cases h : lapses day m
    · have e : lapses2 day m = true := by
        unfold lapses2
        rw [decide_eq_true h.2, Bool.and_true]
        have := h.1
        simpa using this
      have e1 : lapR day m = some (lapR2 m) := if_pos h
      have e2 : lapM day m = lapM2 day m := if_pos h
      have es : (done ++ m :: r).set done.length (lapM2 day m) = (done ++ [lapM2 day m]) ++ r := by
        have := set_mid done r m (lapM2 day m)
        rw [Int.toNat_natCast] at this
        rw [this]
        simp
      have ih := lapGo_eq day r (done ++ [lapM2 day m]) (insR l (lapR2 m))
      rw [List.length_append] at ih
      rw [if_pos e, es, List.filterMap_cons, e1, List.map_cons, e2, List.foldl_cons]
      simpa using ih
    · have e : lapses2 day m = false := by
        unfold lapses2
        unfold lapses at h
        by_cases h1 : m.f1 = 2 ∨ m.f1 = 4
        · have : ¬ m.f2 < day := fun h2 => h ⟨h1, h2⟩
          rw [decide_eq_false this, Bool.and_false]
        · have : (m.f1 == 2 || m.f1 == 4) = false := by simpa using h1
          rw [this, Bool.false_and]
      have e1 : lapR day m = none := if_neg h
      have e2 : lapM day m = m := if_neg h
      have ih := lapGo_eq day r (done ++ [m]) l
      rw [List.length_append] at ih
      rw [e, if_neg (by decide), List.filterMap_cons, e1, List.map_cons, e2]
      simpa using ih
theorem lap_nodup (day : Int) : ∀ ms : List S50, (ms.map (·.f0)).Nodup → ((ms.filterMap (lapR day)).map (·.f0)).Nodup
  | [], _ => by simp
  | m :: r, h => by
    rw [List.map_cons, List.nodup_cons] at h
    have ih := lap_nodup day r h.2
    by_cases hl : lapses day m
    · have e1 : lapR day m = some ⟨m.f0, wrap64 (m.f2 + 1), m.f3⟩ := if_pos hl
      rw [List.filterMap_cons, e1, List.map_cons, List.nodup_cons]
      refine ⟨fun hm => ?_, ih⟩
      obtain ⟨x, hx, he⟩ := List.mem_map.1 hm
      obtain ⟨y, hy, hy2⟩ := List.mem_filterMap.1 hx
      unfold lapR at hy2
      split at hy2
      · obtain rfl := Option.some.inj hy2
        exact h.1 (List.mem_map.2 ⟨y, hy, he⟩)
      · cases hy2
    · have e1 : lapR day m = none := if_neg hl
      rw [List.filterMap_cons, e1]
      exact ih
theorem lapsed_some (k : Nat) (d ans app : Int) (hs : List Int) (ms : List S50) (day : Int) (h1 : hs.length < 1000000) (h2 : ms.length < 1000000) (hn : (ms.map (·.f0)).Nodup) :
    insolvencyref33_lapsed.f k d ans app hs ms day = some (day, ans, app, hs, ms.map (lapM day), sortR (ms.filterMap (lapR day))) := by
  unfold insolvencyref33_lapsed.f
  rw [if_pos ⟨h1, h2⟩]
  have e := lapGo_eq day ms [] []
  rw [List.nil_append, List.length_nil] at e
  rw [e]
  obtain ⟨i1, i2⟩ := insAll (ms.filterMap (lapR day)) [] List.Pairwise.nil
  rw [List.nil_append] at i2
  have : (ms.filterMap (lapR day)).foldl insR [] = sortR (ms.filterMap (lapR day)) := by
    refine sort_unique _ _ (i2.trans (sort_perm _).symm) i1 (sortR_sorted _) ?_
    exact (i2.map (·.f0)).nodup_iff.2 (lap_nodup day ms hn)
  rw [this]
  simp
end Go.Proofs.Ytpfiecjacpbhkaa.D

/- insolvencylaw33.built: the docket after the filings that the reference accepts. -/
namespace Go.Proofs.Ytpfiecjacpbhkaa.D
open Go.RowKit Go.Proofs.YtpfiecjacpbhkaaW.PrintWords Go.Proofs.YtpfiecjacpbhkaaW.PrintLast Go.Proofs.YtpfiecjacpbhkaaW.PrintMore
set_option linter.unusedVariables false
set_option linter.unusedSimpArgs false

def insolvencylaw33_built.l0 : Nat → List (S47) → Int → Int → Int → Int → List Int → List (S50) → Option (Int × Int × Int × List Int × (List (S50)))
 | 0, _, _, _, _, _, _, _ => none
 | k + 1, x9, x10, x339000, x339001, x339002, x339003, x339004 => if x10 < (x9.length : Int) then (if 0 ≤ x10 then ((ref_File.f k x339000 x339001 x339002 x339003 x339004 ((rd_T47 x9 x10).f0) ((rd_T47 x9 x10).f1) ((rd_T47 x9 x10).f2) ((rd_T47 x9 x10).f3)).bind fun bt343 => (if bt343.2.2.2.2.2.2 = 0 then (insolvencylaw33_built.l0 k x9 (wrap64 (x10 + 1)) bt343.1 bt343.2.1 bt343.2.2.1 bt343.2.2.2.1 bt343.2.2.2.2.1) else (insolvencylaw33_built.l0 k x9 (wrap64 (x10 + 1)) x339000 x339001 x339002 x339003 x339004))) else (none)) else (some (x339000, x339001, x339002, x339003, x339004))
def insolvencylaw33_built.f (k : Nat) (a0_0 : Int) (a0_1 : Int) (l1 : List Int) (l2 : List (S83)) : Option (Int × Int × Int × List Int × (List (S50))) := (insolvencylaw0_Terms.f k a0_0 a0_1 l1).bind fun bt323 => ((insolvencyref33_NewDocket.f 0 bt323.1 bt323.2.1 bt323.2.2).bind fun bt328 => ((law0_Matters.f k l2).bind fun t339 => (insolvencylaw33_built.l0 k t339 0 bt328.1 bt328.2.1 bt328.2.2.1 bt328.2.2.2.1 bt328.2.2.2.2.1)))
theorem insolvencylaw33_built.mono_l : ∀ k, (∀ y0 y1 y2 y3 y4 y5 y6, LeO (insolvencylaw33_built.l0 k y0 y1 y2 y3 y4 y5 y6) (insolvencylaw33_built.l0 (k + 1) y0 y1 y2 y3 y4 y5 y6))
 | 0 => fun _ _ _ _ _ _ _ r h => by simp [insolvencylaw33_built.l0] at h
 | k + 1 => by
  have ih0 := insolvencylaw33_built.mono_l k
  ·intro y0 y1 y2 y3 y4 y5 y6
   unfold insolvencylaw33_built.l0
   repeat' first
   | (with_reducible exact ih0 _ _ _ _ _ _ _)
   | (with_reducible exact insolvencylaw0_Terms.mono _ _ _ _)
   | (with_reducible exact law0_Matters.mono _ _)
   | (with_reducible exact ref_File.mono _ _ _ _ _ _ _ _ _ _)
   | (with_reducible exact LeO.refl _)
   | (with_reducible exact LeO.none _)
   | (with_reducible refine LeO.ite ?_ ?_)
   | (with_reducible refine LeO.bind ?_ (fun _ => ?_))
   | exact ih0 _ _ _ _ _ _ _
   | exact insolvencylaw0_Terms.mono _ _ _ _
   | exact law0_Matters.mono _ _
   | exact ref_File.mono _ _ _ _ _ _ _ _ _ _
   | exact LeO.none _
   | refine LeO.ite ?_ ?_
   | refine LeO.bind ?_ (fun _ => ?_)
theorem insolvencylaw33_built.mono : ∀ a0 a1 a2 a3 k, LeO (insolvencylaw33_built.f k a0 a1 a2 a3) (insolvencylaw33_built.f (k + 1) a0 a1 a2 a3) := by
 intro a0 a1 a2 a3 k
 have ih0 := insolvencylaw33_built.mono_l k
 unfold insolvencylaw33_built.f
 repeat' first
   | (with_reducible exact ih0 _ _ _ _ _ _ _)
   | (with_reducible exact insolvencylaw0_Terms.mono _ _ _ _)
   | (with_reducible exact law0_Matters.mono _ _)
   | (with_reducible exact ref_File.mono _ _ _ _ _ _ _ _ _ _)
   | (with_reducible exact LeO.refl _)
   | (with_reducible exact LeO.none _)
   | (with_reducible refine LeO.ite ?_ ?_)
   | (with_reducible refine LeO.bind ?_ (fun _ => ?_))
   | exact ih0 _ _ _ _ _ _ _
   | exact insolvencylaw0_Terms.mono _ _ _ _
   | exact law0_Matters.mono _ _
   | exact ref_File.mono _ _ _ _ _ _ _ _ _ _
   | exact LeO.none _
   | refine LeO.ite ?_ ?_
   | refine LeO.bind ?_ (fun _ => ?_)

structure BSt (w W : World) (gO gZ : Nat) (d a p : Int) (v3 v4 v7 : Value) (hs : List Int) (ms : List S50) (fl : List S47) : Prop where
  b : Below w.heap.size w W
  o : W.heap[gO]? = some (.cells #[.int .i64 d, .int .i64 a, .int .i64 p, v3, v4] 30 (0, 0))
  z : W.heap[gZ]? = some (.cells #[.int .i64 0, .int .i64 0, .int .i64 0, .slice none 0 0, .slice none 0 0] 30 (0, 0))
  r3 : Kd.R (Kd.int .i64) 3 W w.heap.size (fun _ => True) v3 hs
  r4 : Kd.R k50 50 W w.heap.size (fun _ => True) v4 ms
  r7 : Kd.R k47 47 W w.heap.size (fun _ => True) v7 fl
theorem BSt.below {w W W' : World} {gO gZ : Nat} {d a p : Int} {v3 v4 v7 : Value} {hs : List Int} {ms : List S50} {fl : List S47} (h : BSt w W gO gZ d a p v3 v4 v7 hs ms fl) (hb : Below W.heap.size W W') : BSt w W' gO gZ d a p v3 v4 v7 hs ms fl :=
  ⟨below_step h.b hb, blk_below h.o hb, blk_below h.z hb, Kd.R_below h.r3 hb, Kd.R_below h.r4 hb, Kd.R_below h.r7 hb⟩
/-- The docket's block is written anew. -/
theorem BSt.turn {w W : World} {gO gZ : Nat} {d a p d' a' p' : Int} {v3 v4 v7 v3' v4' : Value} {hs hs' : List Int} {ms ms' : List S50} {fl : List S47} (h : BSt w W gO gZ d a p v3 v4 v7 hs ms fl) (hO : w.heap.size ≤ gO) (hn : gZ ≠ gO)
    (h3 : Kd.R (Kd.int .i64) 3 W w.heap.size (fun _ => True) v3' hs') (h4 : Kd.R k50 50 W w.heap.size (fun _ => True) v4' ms') : BSt w (five W gO (.int .i64 d') (.int .i64 a') (.int .i64 p') v3' v4') gO gZ d' a' p' v3' v4' v7 hs' ms' fl :=
  ⟨five_below h.b hO _ _ _ _ _, five_blk h.o _ _ _ _ _, by
      unfold five
      exact blk_far (p := ⟨gO, 4, none⟩) (blk_far (p := ⟨gO, 3, none⟩) (blk_far (p := ⟨gO, 2, none⟩) (blk_far (p := ⟨gO, 1, none⟩) (blk_far (p := ⟨gO, 0, none⟩) h.z hn _) hn _) hn _) hn _) hn _,
    five_R h3 h.o (by decide) _ _ _ _ _, five_R h4 h.o (by decide) _ _ _ _ _, five_R h.r7 h.o (by decide) _ _ _ _ _⟩
/-- Another block of a docket's kind is written. -/
theorem BSt.other {w W : World} {gO gZ gN : Nat} {d a p : Int} {v3 v4 v7 : Value} {hs : List Int} {ms : List S50} {fl : List S47} {y0 y1 y2 y3 y4 : Value} (h : BSt w W gO gZ d a p v3 v4 v7 hs ms fl) (hN : W.heap[gN]? = some (.cells #[y0, y1, y2, y3, y4] 30 (0, 0))) (h1 : gO ≠ gN) (h2 : gZ ≠ gN) (h3 : w.heap.size ≤ gN) (x0 x1 x2 x3 x4 : Value) :
    BSt w (five W gN x0 x1 x2 x3 x4) gO gZ d a p v3 v4 v7 hs ms fl := by
  refine ⟨five_below h.b h3 _ _ _ _ _, ?_, ?_, five_R h.r3 hN (by decide) _ _ _ _ _, five_R h.r4 hN (by decide) _ _ _ _ _, five_R h.r7 hN (by decide) _ _ _ _ _⟩
  · unfold five
    exact blk_far (p := ⟨gN, 4, none⟩) (blk_far (p := ⟨gN, 3, none⟩) (blk_far (p := ⟨gN, 2, none⟩) (blk_far (p := ⟨gN, 1, none⟩) (blk_far (p := ⟨gN, 0, none⟩) h.o h1 _) h1 _) h1 _) h1 _) h1 _
  · unfold five
    exact blk_far (p := ⟨gN, 4, none⟩) (blk_far (p := ⟨gN, 3, none⟩) (blk_far (p := ⟨gN, 2, none⟩) (blk_far (p := ⟨gN, 1, none⟩) (blk_far (p := ⟨gN, 0, none⟩) h.z h2 _) h2 _) h2 _) h2 _) h2 _
theorem elmF {e base g n cap : Nat} {ok : Nat → Prop} {W : World} {xs : List S47} (h : Kd.R k47 e W base ok (.slice (some ⟨g, 0, none⟩) n cap) xs) (i : Int) (h0 : 0 ≤ i) (h1 : i < n) (m : S47) (hm : rd_T47 xs i = m) :
    W.cell? ⟨g, i.toNat * 4, none⟩ = some (.int .i64 m.f0) ∧ W.cell? ⟨g, i.toNat * 4 + 1, none⟩ = some (.int .i64 m.f1) ∧ W.cell? ⟨g, i.toNat * 4 + 2, none⟩ = some (.int .i64 m.f2) ∧ W.cell? ⟨g, i.toNat * 4 + 3, none⟩ = some (.int .i64 m.f3) := by
  obtain ⟨ce, hcl, hM, hcc, hfr⟩ := Kd.R_elem h z47 i h0 h1
  obtain rfl := k47_openM hM
  subst hm
  exact ⟨hcc 0 _ rfl, hcc 1 _ rfl, hcc 2 _ rfl, hcc 3 _ rfl⟩

def bldWorld (w : World) (x y : Int) : World :=
  (w.alloc (.cells #[.int .u8 x, .int .u8 y] 22 (0, 0))).alloc (.cells #[.int .i64 0, .int .i64 0, .int .i64 0, .slice none 0 0, .slice none 0 0] 30 (0, 0))
theorem bldW_below (w : World) (x y : Int) : Below w.heap.size w (bldWorld w x y) := by
  unfold bldWorld
  exact below_alloc (below_alloc (Below.refl _ _) _) _
theorem bldW_res (w : World) (x y : Int) : (bldWorld w x y).heap[w.heap.size + 1]? = some (.cells #[.int .i64 0, .int .i64 0, .int .i64 0, .slice none 0 0, .slice none 0 0] 30 (0, 0)) := by
  have := blk_new (w.alloc (.cells #[.int .u8 x, .int .u8 y] 22 (0, 0))) (.cells #[.int .i64 0, .int .i64 0, .int .i64 0, .slice none 0 0, .slice none 0 0] 30 (0, 0))
  simpa [bldWorld] using this

set_option maxHeartbeats 16000000 in
set_option maxRecDepth 100000 in
theorem insolvencylaw33_built.calls (k : Nat) (a0_0 : Int) (a0_1 : Int) (A1 : Option Addr) (c1 : Nat) (l1 : List Int) (A2 : Option Addr) (c2 : Nat) (l2 : List S83) (r1 : Int) (r2 : Int) (r3 : Int) (r4 : List Int) (r5 : List S50) (w : World) (hr1 : Kd.C (Kd.int .u16) w A1 l1.length l1) (hc1 : l1.length ≤ c1) (hr2 : Kd.C k83 w A2 l2.length l2) (hc2 : l2.length ≤ c2) (h : insolvencylaw33_built.f k a0_0 a0_1 l1 l2 = some (r1, r2, r3, r4, r5)) :
    Calls Try.prog 12 #[.agg #[.int .u8 a0_0, .int .u8 a0_1], .slice A1 l1.length c1, .slice A2 l2.length c2] w fun e w' => ∃ v3_ v4_ : Value, e = .returned (.agg #[.int .i64 r1, .int .i64 r2, .int .i64 r3, v3_, v4_]) ∧ Kd.R (Kd.int .i64) 3 w' w.heap.size (fun _ => True) v3_ r4 ∧ Kd.R k50 50 w' w.heap.size (fun _ => True) v4_ r5 ∧ Below w.heap.size w w' := by
  have hu := Try.underlying30
  have hu2 := Try.underlying47
  have hu3 := Try.underlying43
  have hu4 := Try.underlying22
  unfold insolvencylaw33_built.f at h
  obtain ⟨⟨t1, t2, t3⟩, hT, h⟩ := Option.bind_eq_some_iff.mp h
  obtain ⟨⟨n1, n2, n3, n4, n5, n6⟩, hN, h⟩ := Option.bind_eq_some_iff.mp h
  obtain ⟨fl, hM, h⟩ := Option.bind_eq_some_iff.mp h
  have I0 : insolvencylaw33_built.l0 k fl 0 n1 n2 n3 n4 n5 = some (r1, r2, r3, r4, r5) := h
  clear h
  have B0 := bldW_below w a0_0 a0_1
  have K0 := bldW_res w a0_0 a0_1
  have hcT := insolvencylaw0_Terms.calls k a0_0 a0_1 A1 c1 l1 t1 t2 t3 _ (Kd.C_below hr1 B0) hc1 hT
  have hcM := fun W (hW : Below w.heap.size w W) => law0_Matters.calls k A2 c2 l2 fl W (Kd.C_below hr2 hW) hc2 hM
  have HI := Aside0.mk I0
  clear hr1 hr2 I0 hT hM
  go_enter Try.func12, Try.ntmps12
  go_upto_region 2 with (first | (go_at_call 18; change Calls _ _ _ (bldWorld w a0_0 a0_1) _; refine hcT.mono ?_; rintro e w1 ⟨v, rfl, hv, hb1⟩; obtain ⟨A3, c3, rfl⟩ := Kd.R_slice hv; have hC3 := (Kd.R_reads' hv).2; have hcN := insolvencyref33_NewDocket.calls 0 t1 t2 A3 c3 t3 n1 n2 n3 n4 n5 n6 w1 hC3.2 hC3.1 hN) | (go_at_call 22; refine hcN.mono ?_; rintro e w2 ⟨v3, v4, rfl, hv3, hv4, hb2⟩; obtain ⟨A4, c4, rfl⟩ := Kd.R_slice hv3; obtain ⟨A5, c5, rfl⟩ := Kd.R_slice hv4))
  have BO : Below w.heap.size w w2 := below_step (below_step B0 hb1) hb2
  have KZ := blk_alloc (blk_below (blk_below K0 hb1) hb2) (.cells #[.int .i64 n1, .int .i64 n2, .int .i64 n3, .slice A4 n4.length c4, .slice A5 n5.length c5] 30 (0, 0))
  have KO := blk_new w2 (.cells #[.int .i64 n1, .int .i64 n2, .int .i64 n3, .slice A4 n4.length c4, .slice A5 n5.length c5] 30 (0, 0))
  have BO2 := below_alloc BO (.cells #[.int .i64 n1, .int .i64 n2, .int .i64 n3, .slice A4 n4.length c4, .slice A5 n5.length c5] 30 (0, 0))
  have Q3 := Kd.R_alloc (Kd.R_lower hv3 (below_step B0 hb1).size) (.cells #[.int .i64 n1, .int .i64 n2, .int .i64 n3, .slice A4 n4.length c4, .slice A5 n5.length c5] 30 (0, 0))
  have Q4 := Kd.R_alloc (Kd.R_lower hv4 (below_step B0 hb1).size) (.cells #[.int .i64 n1, .int .i64 n2, .int .i64 n3, .slice A4 n4.length c4, .slice A5 n5.length c5] 30 (0, 0))
  have gO0 : w.heap.size ≤ w2.heap.size := BO.size
  have gZ0 : w.heap.size ≤ w.heap.size + 1 := Nat.le_succ _
  have nZ : w.heap.size + 1 ≠ w2.heap.size := Nat.ne_of_lt (blk_lt (blk_below (blk_below K0 hb1) hb2))
  generalize w2.alloc (.cells #[.int .i64 n1, .int .i64 n2, .int .i64 n3, .slice A4 n4.length c4, .slice A5 n5.length c5] 30 (0, 0)) = W3 at *
  generalize w2.heap.size = gO at *
  generalize w.heap.size + 1 = gZ at *
  clear B0 K0 hcT hb1 hb2 BO hv hv3 hv4 hC3 hcN hN
  go_wp2_with (go_at_call 19; refine (hcM _ BO2).mono ?_; rintro e w4 ⟨v7, rfl, hv7, hb4⟩; obtain ⟨A7, c7, rfl⟩ := Kd.R_slice hv7)
  have S0 : BSt w w4 gO gZ n1 n2 n3 (.slice A4 n4.length c4) (.slice A5 n5.length c5) (.slice A7 fl.length c7) n4 n5 fl :=
    ⟨below_step BO2 hb4, blk_below KO hb4, blk_below KZ hb4, Kd.R_below Q3 hb4, Kd.R_below Q4 hb4, Kd.R_lower hv7 BO2.size⟩
  have SS := Aside0.mk S0
  clear S0 KZ KO BO2 Q3 Q4 hcM hv7 hb4
  go_loopg [10] k (fun kx s10 wr => ∃ (x d a p : Int) (hs : List Int) (ms : List S50) (v3 v4 : Value), s10 = .int .i64 x ∧ Aside0 (insolvencylaw33_built.l0 kx fl x d a p hs ms = some (r1, r2, r3, r4, r5)) ∧ Aside0 (BSt w wr gO gZ d a p v3 v4 (.slice A7 fl.length c7) hs ms fl))
  case atStart => exact ⟨0, n1, n2, n3, n4, n5, _, _, rfl, HI, SS⟩
  case round =>
    obtain ⟨x, d, a, p, hs, ms, v3, v4, rfl, HI2, S⟩ := hrel
    clear HI SS
    obtain ⟨k1, rfl⟩ : ∃ m, gk = m + 1 := by
      cases gk with
      | zero => have := HI2.out; cases this
      | succ m => exact ⟨m, rfl⟩
    have I := HI2.out
    rw [insolvencylaw33_built.l0] at I
    clear HI2
    obtain ⟨B3, d3, rfl⟩ := Kd.R_slice S.out.r3
    obtain ⟨B4, d4, rfl⟩ := Kd.R_slice S.out.r4
    obtain ⟨o0, o1, o2, o3, o4⟩ := cells5 ⟨S.out.o⟩
    by_cases hlt : x < (fl.length : Int)
    · rw [if_pos hlt] at I
      by_cases h0 : 0 ≤ x
      case neg => rw [if_neg h0] at I; cases I
      rw [if_pos h0] at I
      have hd : decide (x < (fl.length : Int)) = true := decide_eq_true hlt
      obtain ⟨g7, c7', eq7, -, hg7, -⟩ := Kd.R_form S.out.r7 (by omega)
      injection eq7 with e7 e8 e9
      subst e7
      clear e8 e9 c7'
      generalize hy : rd_T47 fl x = y at *
      obtain ⟨f0, f1, f2, f3⟩ := elmF S.out.r7 x h0 hlt y hy
      have p1 : (0 ≤ x) = True := eq_true h0
      have p2 : (x < (fl.length : Int)) = True := eq_true hlt
      obtain ⟨⟨s1, s2, s3, s4, s5, s6, s7⟩, hF, I2⟩ := Option.bind_eq_some_iff.mp I
      have hcal : ∀ W, Below wr.heap.size wr W → Calls Try.prog 28 #[.agg #[.int .i64 d, .int .i64 a, .int .i64 p, .slice B3 hs.length d3, .slice B4 ms.length d4], .agg #[.int .i64 y.f0, .int .i64 y.f1, .int .i64 y.f2, .int .i64 y.f3]] W fun e w' => ∃ u3 u4 u5 : Value, e = .returned (.tuple #[.agg #[.int .i64 s1, .int .i64 s2, .int .i64 s3, u3, u4], u5, .int .i64 s7]) ∧
          Kd.R (Kd.int .i64) 3 w' w.heap.size (fun _ => True) u3 s4 ∧ Kd.R k50 50 w' w.heap.size (fun _ => True) u4 s5 ∧ Kd.R k52 52 w' w.heap.size (fun _ => True) u5 s6 ∧ Below wr.heap.size wr w' ∧ Below W.heap.size W w' := by
        intro W hW
        refine (ref_File.calls k1 d a p B3 d3 hs B4 d4 ms y.f0 y.f1 y.f2 y.f3 s1 s2 s3 s4 s5 s6 s7 W (Kd.C_below (Kd.R_reads' S.out.r3).2.2 hW) (Kd.R_reads' S.out.r3).2.1 (Kd.C_below (Kd.R_reads' S.out.r4).2.2 hW) (Kd.R_reads' S.out.r4).2.1 hF).mono ?_
        rintro e w' ⟨u3, u4, u5, he, q1, q2, q3, hb⟩
        have hs' : w.heap.size ≤ W.heap.size := Nat.le_trans S.out.b.size hW.size
        exact ⟨u3, u4, u5, he, Kd.R_lower q1 hs', Kd.R_lower q2 hs', Kd.R_lower q3 hs', below_step hW hb, hb⟩
      have I3 := Aside0.mk I2
      clear I I2 hF hy h0 hlt
      dsimp only at I3
      go_wp2_with (fail)
      obtain ⟨u0, u1, u2, u3', u4', u5', u6', u7', u8'⟩ : wr.drew.cell? ⟨gO, 0, none⟩ = some (.int .i64 d) ∧ wr.drew.cell? ⟨gO, 1, none⟩ = some (.int .i64 a) ∧ wr.drew.cell? ⟨gO, 2, none⟩ = some (.int .i64 p) ∧ wr.drew.cell? ⟨gO, 3, none⟩ = some (.slice B3 hs.length d3) ∧ wr.drew.cell? ⟨gO, 4, none⟩ = some (.slice B4 ms.length d4) ∧ wr.drew.cell? ⟨g7, x.toNat * 4, none⟩ = some (.int .i64 y.f0) ∧ wr.drew.cell? ⟨g7, x.toNat * 4 + 1, none⟩ = some (.int .i64 y.f1) ∧ wr.drew.cell? ⟨g7, x.toNat * 4 + 2, none⟩ = some (.int .i64 y.f2) ∧ wr.drew.cell? ⟨g7, x.toNat * 4 + 3, none⟩ = some (.int .i64 y.f3) := ⟨o0, o1, o2, o3, o4, f0, f1, f2, f3⟩
      have nn1 := World.new_ne wr _ o0
      have nn2 := World.new_ne wr _ f0
      go_region_held3 (fun w_ => (w_.cell? ⟨gO, 0, none⟩ = some (.int .i64 d) ∧ w_.cell? ⟨gO, 1, none⟩ = some (.int .i64 a) ∧ w_.cell? ⟨gO, 2, none⟩ = some (.int .i64 p) ∧ w_.cell? ⟨gO, 3, none⟩ = some (.slice B3 hs.length d3) ∧ w_.cell? ⟨gO, 4, none⟩ = some (.slice B4 ms.length d4)) ∧ w_.cell? ⟨g7, x.toNat * 4, none⟩ = some (.int .i64 y.f0) ∧ w_.cell? ⟨g7, x.toNat * 4 + 1, none⟩ = some (.int .i64 y.f1) ∧ w_.cell? ⟨g7, x.toNat * 4 + 2, none⟩ = some (.int .i64 y.f2) ∧ w_.cell? ⟨g7, x.toNat * 4 + 3, none⟩ = some (.int .i64 y.f3)) (first | (with_reducible exact ⟨⟨o0, o1, o2, o3, o4⟩, f0, f1, f2, f3⟩) | (with_reducible exact ⟨⟨u0, u1, u2, u3', u4'⟩, u5', u6', u7', u8'⟩) | (with_reducible exact ⟨⟨o0', o1', o2', o3', o4'⟩, f0', f1', f2', f3'⟩) | go_keep)
        (first | (go_at_call 28; refine (hcal _ (by repeat (first | exact Below.refl _ _ | apply below_drew1 | apply below_alloc | apply pw_below_drewN))).mono ?_; rintro e w5 ⟨u3, u4, u5, rfl, hu3', hu4', hu5', hb5, hbW⟩; obtain ⟨D3, q3, rfl⟩ := Kd.R_slice hu3'; obtain ⟨D4, q4, rfl⟩ := Kd.R_slice hu4'; obtain ⟨D5, q5, rfl⟩ := Kd.R_slice hu5'; have o0' := pw_cell_below hb5 o0; have o1' := pw_cell_below hb5 o1; have o2' := pw_cell_below hb5 o2; have o3' := pw_cell_below hb5 o3; have o4' := pw_cell_below hb5 o4; have f0' := pw_cell_below hb5 f0; have f1' := pw_cell_below hb5 f1; have f2' := pw_cell_below hb5 f2; have f3' := pw_cell_below hb5 f3; have nn3 := World.new_ne w5 _ o0'; have nn4 := World.new_ne w5 _ f0'; try (have KN : w5.heap[wr.heap.size]? = some (.cells #[.int .i64 0, .int .i64 0, .int .i64 0, .slice none 0 0, .slice none 0 0] 30 (0, 0)) := blk_below (w := (wr.alloc (.cells #[.int .i64 0, .int .i64 0, .int .i64 0, .slice none 0 0, .slice none 0 0] 30 (0, 0))).drew) (blk_drew (blk_new wr _)) (by with_reducible exact hbW); obtain ⟨z0, z1, z2, z3, z4⟩ := cells5 ⟨KN⟩; obtain ⟨x0, x1, x2, x3, x4⟩ := frz5 ⟨KN⟩)))
      all_goals have S5 := S.out.below hb5
      all_goals have gO1 := blk_lt S.out.o
      all_goals have gZ1 := blk_lt S.out.z
      all_goals have gO2 := blk_lt S5.o
      all_goals have gZ2 := blk_lt S5.z
      all_goals have gw := S.out.b.size
      all_goals first
        | (change Exit.then _ _ _ _ (five w5 wr.heap.size (.int .i64 s1) (.int .i64 s2) (.int .i64 s3) (.slice D3 s4.length q3) (.slice D4 s5.length q4))
           have S6 := S5.other KN (by omega) (by omega) gw (.int .i64 s1) (.int .i64 s2) (.int .i64 s3) (.slice D3 s4.length q3) (.slice D4 s5.length q4)
           have KN6 := five_blk KN (.int .i64 s1) (.int .i64 s2) (.int .i64 s3) (.slice D3 s4.length q3) (.slice D4 s5.length q4)
           have T3 := five_R hu3' KN (by decide) (.int .i64 s1) (.int .i64 s2) (.int .i64 s3) (.slice D3 s4.length q3) (.slice D4 s5.length q4)
           have T4 := five_R hu4' KN (by decide) (.int .i64 s1) (.int .i64 s2) (.int .i64 s3) (.slice D3 s4.length q3) (.slice D4 s5.length q4)
           generalize five w5 wr.heap.size (.int .i64 s1) (.int .i64 s2) (.int .i64 s3) (.slice D3 s4.length q3) (.slice D4 s5.length q4) = W6 at *
           generalize wr.heap.size = gN at *)
        | (change Exit.then _ _ _ _ (w5.alloc (.cells #[.int .i64 s1, .int .i64 s2, .int .i64 s3, .slice D3 s4.length q3, .slice D4 s5.length q4] 30 (0, 0)))
           have S6 := S5.below (below_alloc (Below.refl w5.heap.size w5) (.cells #[.int .i64 s1, .int .i64 s2, .int .i64 s3, .slice D3 s4.length q3, .slice D4 s5.length q4] 30 (0, 0)))
           have KN6 := blk_new w5 (.cells #[.int .i64 s1, .int .i64 s2, .int .i64 s3, .slice D3 s4.length q3, .slice D4 s5.length q4] 30 (0, 0))
           have T3 := Kd.R_alloc hu3' (.cells #[.int .i64 s1, .int .i64 s2, .int .i64 s3, .slice D3 s4.length q3, .slice D4 s5.length q4] 30 (0, 0))
           have T4 := Kd.R_alloc hu4' (.cells #[.int .i64 s1, .int .i64 s2, .int .i64 s3, .slice D3 s4.length q3, .slice D4 s5.length q4] 30 (0, 0))
           generalize w5.alloc (.cells #[.int .i64 s1, .int .i64 s2, .int .i64 s3, .slice D3 s4.length q3, .slice D4 s5.length q4] 30 (0, 0)) = W6 at *
           generalize w5.heap.size = gN at *)
      all_goals clear o0 o1 o2 o3 o4 f0 f1 f2 f3 o0' o1' o2' o3' o4' f0' f1' f2' f3' u0 u1 u2 u3' u4' u5' u6' u7' u8' nn1 nn2 nn3 nn4 gO1 gZ1 gO2 gZ2 gw hb5 hbW hu3' hu4' hu5' S5 S hcal
      all_goals try clear z0 z1 z2 z3 z4 x0 x1 x2 x3 x4 KN
      all_goals obtain ⟨n0', n1', n2', n3', n4'⟩ := cells5 ⟨KN6⟩
      all_goals obtain ⟨o0, o1, o2, o3, o4⟩ := cells5 ⟨S6.o⟩
      all_goals obtain ⟨x0, x1, x2, x3, x4⟩ := frz5 ⟨S6.o⟩
      all_goals have S7 := S6.turn (d' := s1) (a' := s2) (p' := s3) gO0 nZ T3 T4
      all_goals have HS6 := Aside0.mk S6
      all_goals have HS7 := Aside0.mk S7
      all_goals clear S6 S7 T3 T4 KN6
      all_goals have HIO := I3.out
      all_goals by_cases he : s7 = 0
      all_goals first
        | (rw [if_pos he] at HIO
           have HI4 := Aside0.mk HIO
           have he2 : (s7 == 0) = true := by simpa using he
           clear HIO I3
           go_wp2
           go_roundg k1
           case measure => omega
           case rel => exact ⟨_, s1, s2, s3, s4, s5, _, _, rfl, HI4, HS7⟩)
        | (rw [if_neg he] at HIO
           have HI4 := Aside0.mk HIO
           have he2 : (s7 == 0) = false := by simpa using he
           clear HIO I3
           go_wp2
           go_roundg k1
           case measure => omega
           case rel => exact ⟨_, d, a, p, hs, ms, _, _, rfl, HI4, HS6⟩)
    · rw [if_neg hlt] at I
      have hd : decide (x < (fl.length : Int)) = false := decide_eq_false hlt
      have I2 := Option.some.inj I
      injection I2 with i1 I2
      injection I2 with i2 I2
      injection I2 with i3 I2
      injection I2 with i4 i5
      subst i1 i2 i3 i4 i5
      obtain ⟨z0, z1, z2, z3, z4⟩ := cells5 ⟨S.out.z⟩
      obtain ⟨x0, x1, x2, x3, x4⟩ := frz5 ⟨S.out.z⟩
      go_wp2
      refine bodyPost_ret (results_cell_row rfl _ _ gZ 30 _ (0, 0) _ rfl (five_blk S.out.z _ _ _ _ _) Try.underlying30 rfl (by kernel_rfl)) rfl ?_
      exact ⟨_, _, rfl, five_R S.out.r3 S.out.z (by decide) _ _ _ _ _, five_R S.out.r4 S.out.z (by decide) _ _ _ _ _, five_below S.out.b gZ0 _ _ _ _ _⟩
end Go.Proofs.Ytpfiecjacpbhkaa.D

/- The reference's Check, Advance and File come to what docket's come to; the docket that the laws build is a sound one. -/
namespace Go.Proofs.Ytpfiecjacpbhkaa.D
open Go.RowKit Go.Proofs.YtpfiecjacpbhkaaW.PrintWords Go.Proofs.YtpfiecjacpbhkaaW.PrintLast Go.Proofs.YtpfiecjacpbhkaaW.PrintMore Hx Hm
set_option linter.unusedVariables false
set_option linter.unusedSimpArgs false

theorem runs_some (a b c d : Int) (e : Bool) : insolvencyref33_runs.f a b c d e = some (b == 2 || b == 4) := running_some a b c d e
theorem option_ev (o : Int) : insolvencyref33_option.f o = some (decide (0 ≤ o ∧ o < 4)) := by
  unfold insolvencyref33_option.f
  by_cases h : o ≥ 0
  · rw [if_pos h]
    by_cases h2 : o < 4
    · simp [h2, h]
    · simp [h2]
  · rw [if_neg h]
    simp; omega
theorem bad_ev (d ans app : Int) (hs : List Int) (ms : List S50) (m : S50) : Ev (fun k => insolvencyref33_badMatter.f k d ans app hs ms m.f0 m.f1 m.f2 m.f3 m.f4) (!decide (soundP d m)) := by
  refine ⟨2, fun k hk => ?_⟩
  obtain ⟨k, rfl⟩ : ∃ m, k = m + 2 := ⟨k - 2, by omega⟩
  obtain ⟨f0, f1, f2, f3, f4⟩ := m
  show insolvencyref33_badMatter.f (k + 2) d ans app hs ms f0 f1 f2 f3 f4 = some (!decide (soundP d ⟨f0, f1, f2, f3, f4⟩))
  by_cases hs : 1 ≤ f1 ∧ f1 ≤ 6 ∧ 0 ≤ f3 ∧ f3 < 4
  · have e1 : f1 = 1 ∨ f1 = 2 ∨ f1 = 3 ∨ f1 = 4 ∨ f1 = 5 ∨ f1 = 6 := by omega
    have a1 : ¬ f3 < 0 := by omega
    have a2 : ¬ 4 ≤ f3 := by omega
    have a3 : 0 ≤ f3 := by omega
    have a4 : f3 < 4 := by omega
    by_cases b1 : f2 < d <;> by_cases b2 : 1048576 < f2 <;> by_cases b3 : f2 = 0 <;> by_cases b4 : f3 = 0 <;> cases f4 <;> rcases e1 with rfl | rfl | rfl | rfl | rfl | rfl
    all_goals try subst b3
    all_goals try subst b4
    all_goals first | (simp [insolvencyref33_badMatter.f, insolvencyref33_badMatter.j0, insolvencyref33_badMatter.j1, runs_some, option_ev, soundP, *]; done) | (simp [insolvencyref33_badMatter.f, insolvencyref33_badMatter.j0, insolvencyref33_badMatter.j1, runs_some, option_ev, soundP, *]; omega)
  · have hs2 : ¬ soundP d ⟨f0, f1, f2, f3, f4⟩ := fun h => hs h.1
    rw [decide_eq_false hs2]
    unfold insolvencyref33_badMatter.f
    by_cases h1 : f1 < 1
    · rw [if_pos h1]; rfl
    · rw [if_neg h1]
      by_cases h2 : f1 > 6
      · rw [if_pos h2]; rfl
      · rw [if_neg h2, option_ev, Option.bind_some, decide_eq_false (by omega)]
        rfl

/-! ### Check -/
theorem rcheck_inner (d ans app : Int) (hs : List Int) (ms : List S50) (i : Nat) (hi : i < ms.length) (hl : ms.length < 4611686018427387904) (m : S50) (R : Int)
    (hc : Ev (fun k => (insolvencyref33_badMatter.f k d ans app hs ms m.f0 m.f1 m.f2 m.f3 m.f4).bind fun t => if t = true then some 1 else insolvencyref33_CheckDocket.l0 k (wrap64 ((i : Int) + 1)) d ans app hs ms) R) : ∀ (n j : Nat), j ≤ i → i - j = n →
    Ev (fun k => insolvencyref33_CheckDocket.l1 k (i : Int) (j : Int) d ans app hs ms m.f0 m.f1 m.f2 m.f3 m.f4) (if ((ms.take i).drop j).any (fun x => x.f0 == m.f0) = true then 12 else R)
  | 0, j, h1, h2 => by
    obtain rfl : j = i := by omega
    rw [List.drop_eq_nil_of_le (by rw [List.length_take]; omega), List.any_nil, if_neg (by decide)]
    exact Ev.step (fun k => rfl) (ev_else (by omega) hc)
  | n + 1, j, h1, h2 => by
    have hj : j < (ms.take i).length := by rw [List.length_take]; omega
    have e : (ms.take i)[j] = ms[j]'(by omega) := List.getElem_take
    rw [List.drop_eq_getElem_cons hj, List.any_cons, e]
    refine Ev.step (fun k => rfl) (ev_if (by omega) (ev_if (by omega) (ev_if (by omega) ?_)))
    rw [rdM (show j < ms.length by omega)]
    by_cases h3 : ms[j].f0 = m.f0
    · have : (ms[j].f0 == m.f0) = true := by simpa using h3
      rw [this, Bool.true_or, if_pos rfl]
      exact ev_if h3 (Ev.now _)
    · have : (ms[j].f0 == m.f0) = false := by simpa using h3
      rw [this, Bool.false_or]
      refine ev_else h3 ?_
      rw [wn j ms.length (by omega) hl]
      exact rcheck_inner d ans app hs ms i hi hl m R hc n (j + 1) (by omega) (by omega)
theorem rcheck_loop (d ans app : Int) (hs : List Int) (ms : List S50) (hl : ms.length < 4611686018427387904) : ∀ (n i : Nat), i ≤ ms.length → ms.length - i = n →
    Ev (fun k => insolvencyref33_CheckDocket.l0 k (i : Int) d ans app hs ms) (chkL d (ms.take i) (ms.drop i))
  | 0, i, h1, h2 => by
    obtain rfl : i = ms.length := by omega
    rw [List.drop_length, chkL]
    exact Ev.step (fun k => rfl) (ev_else (by omega) (Ev.now _))
  | n + 1, i, h1, h2 => by
    have hi : i < ms.length := by omega
    rw [List.drop_eq_getElem_cons hi, chkL]
    refine Ev.step (fun k => rfl) (ev_if (by omega) (ev_if (by omega) ?_))
    rw [rdM hi]
    by_cases h3 : ms[i].f0 < 0
    · rw [if_pos h3]
      exact ev_if h3 (Ev.now _)
    rw [if_neg h3]
    refine ev_else h3 ?_
    refine rcheck_inner d ans app hs ms i hi hl ms[i] _ ?_ i 0 (Nat.zero_le _) (by omega)
    refine Ev.bind (bad_ev d ans app hs ms ms[i]) ?_
    by_cases h5 : soundP d ms[i]
    · rw [if_pos h5]
      refine ev_else (by simpa using h5) ?_
      rw [wn i _ hi hl, List.take_append_getElem hi]
      exact rcheck_loop d ans app hs ms hl n (i + 1) (by omega) (by omega)
    · rw [if_neg h5]
      exact ev_if (by simpa using h5) (Ev.now _)
theorem rcheck_ev (day ans app : Int) (hs : List Int) (ms : List S50) : Ev (fun k => insolvencyref33_CheckDocket.f k day ans app hs ms) (chkV day ans app hs ms) := by
  unfold insolvencyref33_CheckDocket.f
  refine ev_then (refCheckTerms_some day ans app hs) ?_
  unfold chkV
  by_cases h : ctE day ans app hs.length = 0
  · rw [if_pos h]
    refine ev_if h ?_
    by_cases h2 : 32 < ms.length
    · rw [if_pos h2]
      exact ev_if (by omega) (Ev.now _)
    · rw [if_neg h2]
      exact ev_else (by omega) (rcheck_loop day ans app hs ms (by omega) ms.length 0 (Nat.zero_le _) (by omega))
  · rw [if_neg h]
    exact ev_else h (Ev.now _)

/-! ### Advance -/
theorem radv_ev (d ans app : Int) (hs : List Int) (ms : List S50) (day : Int) : Ev (fun k => insolvencyref33_Advance.f k d ans app hs ms day) (advV d ans app hs ms day) := by
  unfold insolvencyref33_Advance.f
  refine Ev.bind (rcheck_ev d ans app hs ms) ?_
  by_cases hc : chkV d ans app hs ms = 0
  · refine ev_if hc ?_
    obtain ⟨c1, c2, c3, c4⟩ := chkV_ok hc
    have hd : insolvencyref33_day.f day = some (decide (0 ≤ day ∧ day ≤ 1048576)) := by
      unfold insolvencyref33_day.f
      by_cases h0 : day ≥ 0
      · rw [if_pos h0]
        simp [h0]
      · rw [if_neg h0]
        simp; omega
    refine ev_then hd ?_
    by_cases h1 : 0 ≤ day ∧ day ≤ 1048576
    · refine ev_if (decide_eq_true h1) ?_
      by_cases h3 : day < d
      · have e : advV d ans app hs ms day = dkErr 15 := by unfold advV; rw [if_pos hc, if_neg (by omega), if_pos h3]
        rw [e]
        exact ev_if h3 (Ev.now _)
      · have e : advV d ans app hs ms day = (day, ans, app, hs, ms.map (lapM day), sortR (ms.filterMap (lapR day)), 0) := by unfold advV; rw [if_pos hc, if_neg (by omega), if_neg h3]
        rw [e]
        refine ev_else h3 ?_
        have hn := ((chkL_ok d ms []).1 c4).2.1
        exact Ev.bind ⟨0, fun k _ => lapsed_some k d ans app hs ms day (by omega) (by omega) hn⟩ (Ev.now _)
    · have e : advV d ans app hs ms day = dkErr 1 := by unfold advV; rw [if_pos hc, if_pos (by omega)]
      rw [e]
      exact ev_else (by simpa using h1) (Ev.now _)
  · have e : advV d ans app hs ms day = dkErr (chkV d ans app hs ms) := by unfold advV; rw [if_neg hc]
    rw [e]
    exact ev_else hc (Ev.now _)

/-! ### File -/
theorem rtail_ev (ad : Int × Int) (day ans app : Int) (hs : List Int) (ms : List S50) (rl : List S52) (kind at_ id opt : Int) (h1 : ms.length < 1000000) (h2 : rl.length < 1000000) (hv : ∀ m ∈ ms, soundP day m)
    (ha : Ev (fun k => F.insolvencyref1_AddDays.f k at_ (if kind = 2 then ans else app) hs) ad) : Ev (fun k => ref_File.tail k day ans app hs ms rl kind at_ id opt) (tailV ad day ans app hs ms rl kind at_ id opt) := by
  unfold ref_File.tail tailV
  refine ev_ite (fun _ => Ev.now _) (fun c1 => ev_if (by omega) (ev_ite (fun _ => ev_ite (fun _ => Ev.now _) (fun _ => Ev.now _)) (fun c2 => ev_ite (fun _ => Ev.now _) (fun c3 => ev_ite (fun _ => Ev.now _) (fun c4 => ev_ite (fun _ => Ev.now _) (fun _ => ?_))))))
  refine Ev.bind (a := if kind = 2 ∨ kind = 4 then ad else (0, 0)) (ev_ite (fun _ => ha) (fun _ => Ev.now _)) ?_
  have e : rchgM (rd_T50 ms (fnd id ms 0)) kind (if kind = 2 ∨ kind = 4 then ad else (0, 0)).1 opt = chgM (rd_T50 ms (fnd id ms 0)) kind (if kind = 2 ∨ kind = 4 then ad else (0, 0)).1 opt := by
    unfold rchgM chgM
    by_cases c6 : kind = 6
    · obtain ⟨A, m, B, hms, hf, hm0⟩ := fnd_split id ms 0 (by omega)
      rw [Nat.zero_add] at hf
      have hrd : rd_T50 ms (fnd id ms 0) = m := by rw [hf, hms]; exact rd_mid A B m
      have hs := hv m (by rw [hms]; simp)
      rw [hrd] at c4 ⊢
      have : m.f2 = 0 := by
        have := hs.2.1
        omega
      simp only [if_pos c6, if_neg (show ¬ (kind = 2 ∨ kind = 4) by omega), this]
    · simp only [if_neg c6]
  rw [e]
  generalize (if kind = 2 ∨ kind = 4 then ad else (0, 0)) = b
  unfold chgV
  refine ev_ite (fun _ => Ev.now _) (fun _ => ?_)
  by_cases c8 : kind = 6
  · simp only [if_pos c8]
    exact ev_if (by omega) (Ev.now _)
  · simp only [if_neg c8]
    exact Ev.now _
theorem rfile_ev (ad : Int × Int) (d ans app : Int) (hs : List Int) (ms : List S50) (kind at_ id opt : Int) (ha : Ev (fun k => F.insolvencyref1_AddDays.f k at_ (if kind = 2 then ans else app) hs) ad) :
    Ev (fun k => ref_File.f k d ans app hs ms kind at_ id opt) (fileV ad d ans app hs ms kind at_ id opt) := by
  unfold ref_File.f fileV
  refine Ev.bind (radv_ev d ans app hs ms at_) ?_
  rcases advV_cases d ans app hs ms at_ with ⟨e0, e1, e2, e3, e4, e5⟩ | ⟨e0, e1⟩
  · rw [if_pos e0]
    refine ev_if e0 ?_
    obtain ⟨c1, c2, c3, c4⟩ := chkV_ok e2
    have hv := ((chkL_ok d ms []).1 c4).1
    have hl := List.length_filterMap_le (lapR at_) ms
    rw [e1]
    refine rtail_ev ad at_ ans app hs _ _ kind at_ id opt (by simp; omega) (by rw [ins_size]; omega) (fun m hm => ?_) ha
    obtain ⟨x, hx, rfl⟩ := List.mem_map.1 hm
    exact lap_sound e5 (hv x hx).2
  · rw [if_neg e0]
    exact ev_else e0 (Ev.now _)

/-! ### the docket that the laws build -/
theorem rdF' (done r : List S47) (x : S47) : rd_T47 (done ++ x :: r) (done.length : Int) = x := by
  unfold rd_T47
  rw [Int.toNat_natCast, List.getD_eq_getElem?_getD, List.getElem?_append_right (Nat.le_refl _)]
  simp
theorem built_loop (ans app : Int) (hs : List Int) : ∀ (rest done : List S47) (d : Int) (ms : List S50) (all : List S52), (∀ y ∈ rest, (0 ≤ y.f2 ∧ y.f2 < 4) ∧ 0 ≤ y.f1 ∧ y.f1 ≤ 72) → (done ++ rest).length ≤ 24 → 0 ≤ d → d ≤ 72 → Inv d ans app hs ms all →
    ∃ d2 ms2 all2, Ev (fun k => insolvencylaw33_built.l0 k (done ++ rest) (done.length : Int) d ans app hs ms) (d2, ans, app, hs, ms2) ∧ Inv d2 ans app hs ms2 all2 ∧ 0 ≤ d2 ∧ d2 ≤ 72
  | [], done, d, ms, all, hy, hl, d0, d1, h => ⟨d, ms, all, Ev.step (fun k => rfl) (ev_else (by simp) (Ev.now _)), h, d0, d1⟩
  | x :: r, done, d, ms, all, hy, hl, d0, d1, h => by
    have hlen : (done ++ x :: r).length = done.length + r.length + 1 := by simp; omega
    have hx := hy x (by simp)
    obtain ⟨ad, -, ha1, ha2⟩ := adds hs x.f1 (if x.f0 = 2 then ans else app)
    have hf := rfile_ev ad d ans app hs ms x.f0 x.f1 x.f2 x.f3 ha1
    have ew : wrap64 ((done.length : Int) + 1) = ((done ++ [x]).length : Int) := by rw [w64 _ (by omega) (by omega)]; simp
    by_cases he : (fileV ad d ans app hs ms x.f0 x.f1 x.f2 x.f3).2.2.2.2.2.2 = 0
    · obtain ⟨ms2, rl2, e1, h2, h4, h5⟩ := h.file ad x.f0 x.f1 x.f2 x.f3 hx.1 ha2 he
      obtain ⟨d3, ms3, all3, i1, i2, i3, i4⟩ := built_loop ans app hs r (done ++ [x]) x.f1 ms2 (all ++ rl2) (fun y hy' => hy y (by simp [hy'])) (by simpa using hl) hx.2.1 hx.2.2 h2
      refine ⟨d3, ms3, all3, Ev.step (fun k => rfl) (ev_if (by omega) (ev_if (by omega) ?_)), i2, i3, i4⟩
      rw [rdF', ew]
      refine Ev.bind hf (ev_if he ?_)
      rw [e1]
      rw [List.append_assoc] at i1
      exact i1
    · obtain ⟨d3, ms3, all3, i1, i2, i3, i4⟩ := built_loop ans app hs r (done ++ [x]) d ms all (fun y hy' => hy y (by simp [hy'])) (by simpa using hl) d0 d1 h
      refine ⟨d3, ms3, all3, Ev.step (fun k => rfl) (ev_if (by omega) (ev_if (by omega) ?_)), i2, i3, i4⟩
      rw [rdF', ew]
      refine Ev.bind hf (ev_else he ?_)
      rw [List.append_assoc] at i1
      exact i1
theorem built_ev (a b : Int) (l1 : List Int) (l2 : List S83) (ha : 0 ≤ a ∧ a < 256) (hb : 0 ≤ b ∧ b < 256) (h : ∀ x ∈ l2, Ho.ok83 x) :
    ∃ d ans app hs ms all, Ev (fun k => insolvencylaw33_built.f k a b l1 l2) (d, ans, app, hs, ms) ∧ Inv d ans app hs ms all ∧ 0 ≤ d ∧ d ≤ 72 := by
  obtain ⟨hs, h1, h2, h3⟩ := terms_ev a b l1 ha hb
  obtain ⟨fl, h4, h5, h6⟩ := mats_ev l2 h
  have hc := h3 0 (by omega) (by omega)
  obtain ⟨d, ms, all, i1, i2, i3, i4⟩ := built_loop (1 + a % 8) (1 + b % 8) hs fl [] 0 [] [] h6 (by simpa using h5) (by omega) (by omega) (Inv.new hc)
  refine ⟨d, _, _, hs, ms, all, ?_, i2, i3, i4⟩
  unfold insolvencylaw33_built.f
  refine Ev.bind h1 (ev_then (refNew_some _ _ _ _) ?_)
  rw [newV_ok hc]
  exact Ev.bind h4 i1
theorem Inv.hs_len {d ans app : Int} {hs : List Int} {ms : List S50} {all : List S52} (h : Inv d ans app hs ms all) : hs.length ≤ 1000 := ctE_len h.ct

theorem rul_loop (l : List S52) (hl : l.length < 4611686018427387904) : ∀ (n i : Nat), i ≤ l.length → l.length - i = n → Ev (fun k => insolvencyref33_SameRulings.l0 k l l (i : Int)) true
  | 0, i, h1, h2 => Ev.step (fun k => rfl) (ev_else (by omega) (Ev.now _))
  | n + 1, i, h1, h2 => by
    refine Ev.step (fun k => rfl) (ev_if (by omega) (ev_if (by omega) (ev_if (by omega) (ev_else (by simp) ?_))))
    rw [wn i l.length (by omega) hl]
    exact rul_loop l hl n (i + 1) (by omega) (by omega)
theorem sameRulings_ev (l : List S52) (hl : l.length < 4611686018427387904) : Ev (fun k => insolvencyref33_SameRulings.f k l l) true := ev_if rfl (rul_loop l hl l.length 0 (Nat.zero_le _) (by omega))
theorem advV_len {d ans app : Int} {hs : List Int} {ms : List S50} {day : Int} : (advV d ans app hs ms day).2.2.2.1.length ≤ 1000 ∧ (advV d ans app hs ms day).2.2.2.2.1.length ≤ 32 ∧ (advV d ans app hs ms day).2.2.2.2.2.1.length ≤ 32 := by
  rcases advV_cases d ans app hs ms day with ⟨-, e1, e2, -⟩ | ⟨-, e1⟩
  · obtain ⟨c1, c2, c3, c4⟩ := chkV_ok e2
    have hl := List.length_filterMap_le (lapR day) ms
    rw [e1]
    refine ⟨c2, by simpa using c3, ?_⟩
    show (sortR _).length ≤ 32
    rw [ins_size]
    omega
  · rw [e1]
    exact ⟨by simp [dkErr], by simp [dkErr], by simp [dkErr]⟩
end Go.Proofs.Ytpfiecjacpbhkaa.D

/- The plain law of DocketPlay: no condition. -/
namespace Go.Proofs.Ytpfiecjacpbhkaa.Pure
open Go.RowKit Go.Proofs.YtpfiecjacpbhkaaW.PrintWords Go.Proofs.YtpfiecjacpbhkaaW.PrintLast Go.Proofs.YtpfiecjacpbhkaaW.PrintMore Hx Hm D
set_option linter.unusedVariables false
theorem rdX {l : List S83} {i : Nat} (h : i < l.length) : rd_T83 l (i : Int) ∈ l := by
  unfold rd_T83
  rw [Int.toNat_natCast, List.getD_eq_getElem?_getD, List.getElem?_eq_getElem h]
  exact List.getElem_mem _
theorem fil_loop (l : List S83) (hk : ∀ x ∈ l, Ho.ok83 x) : ∀ (n i : Nat) (acc : List S47) (day : Int), i ≤ 24 → 24 - i = n → acc.length = i → 0 ≤ day → day ≤ 4 * (i : Int) → (∀ y ∈ acc, 0 ≤ y.f2 ∧ y.f2 < 4) →
    ∃ fl, Ev (fun k => insolvencylaw0_Filings.l0 k l acc day (i : Int)) fl ∧ fl.length ≤ 24 ∧ ∀ y ∈ fl, 0 ≤ y.f2 ∧ y.f2 < 4
  | 0, i, acc, day, h1, h2, h3, h4, h5, h6 => by
    by_cases hl : (i : Int) < (l.length : Int)
    · exact ⟨acc, Ev.step (fun k => rfl) (ev_if hl (ev_else (by omega) (Ev.now _))), by omega, h6⟩
    · exact ⟨acc, Ev.step (fun k => rfl) (ev_else hl (Ev.now _)), by omega, h6⟩
  | n + 1, i, acc, day, h1, h2, h3, h4, h5, h6 => by
    by_cases hl : (i : Int) < (l.length : Int)
    · have hx := hk _ (rdX (l := l) (i := i) (by omega))
      have q0 := tm (rd_T83 l (i : Int)).f1 5 (u8_of hx.2.1) (by omega)
      have q1 := tm (rd_T83 l (i : Int)).f2 4 (u8_of hx.2.2.1) (by omega)
      have q2 := u8_of hx.2.1
      have q3 := u8_of hx.2.2.1
      obtain ⟨fl, i1, i2⟩ := fil_loop l hk n (i + 1) (acc ++ [⟨wrap64 (1 + wrap64 (Int.tmod (rd_T83 l (i : Int)).f0 6)), wrap64 (day + wrap64 (Int.tmod (rd_T83 l (i : Int)).f1 5)), wrap64 (Int.tmod (rd_T83 l (i : Int)).f2 4), wrap64 (Int.tmod (rd_T83 l (i : Int)).f3 5)⟩])
        (wrap64 (day + wrap64 (Int.tmod (rd_T83 l (i : Int)).f1 5))) (by omega) (by omega) (by simp; omega)
        (by rw [q0, w64 _ (by omega) (by omega)]; omega) (by rw [q0, w64 _ (by omega) (by omega)]; omega) (fun y hy => by
          rcases List.mem_append.1 hy with hy | hy
          · exact h6 y hy
          · obtain rfl := List.mem_singleton.1 hy
            dsimp only
            rw [q1]
            omega)
      refine ⟨fl, Ev.step (fun k => rfl) (ev_if hl (ev_if (by omega) (ev_if (by omega) (ev_if (by omega) ?_)))), i2⟩
      rw [w64 ((i : Int) + 1) (by omega) (by omega), show (i : Int) + 1 = ((i + 1 : Nat) : Int) by omega]
      exact i1
    · exact ⟨acc, Ev.step (fun k => rfl) (ev_else hl (Ev.now _)), by omega, h6⟩
theorem fils_ev (l : List S83) (h : ∀ x ∈ l, Ho.ok83 x) : ∃ fl, Ev (fun k => insolvencylaw0_Filings.f k l) fl ∧ fl.length ≤ 24 ∧ ∀ y ∈ fl, 0 ≤ y.f2 ∧ y.f2 < 4 :=
  fil_loop l h 24 0 [] 0 (by omega) rfl rfl (by omega) (by omega) (fun y hy => by cases hy)
theorem play_loop (ans app : Int) (hs : List Int) : ∀ (rest done : List S47) (d : Int) (ms : List S50) (all : List S52), (∀ y ∈ rest, 0 ≤ y.f2 ∧ y.f2 < 4) → (done ++ rest).length ≤ 24 → Inv d ans app hs ms all →
    ∃ r : Pl, Ev (fun k => docket_Play.l0 k all (done ++ rest) ((done ++ rest).length : Int) (done.length : Int) d ans app hs ms) r ∧ Ev (fun k => insolvencyref33_PlayDocket.l0 k (done ++ rest) all (done.length : Int) d ans app hs ms) r ∧ r.2.2.2.1.length ≤ 1000 ∧ r.2.2.2.2.1.length ≤ 4 ∧ r.2.2.2.2.2.1.length ≤ 4
  | [], done, d, ms, all, hy, hl, h => ⟨(d, ans, app, hs, ms, all, -1, 0), Ev.step (fun k => rfl) (ev_else (by simp) (Ev.now _)), Ev.step (fun k => rfl) (ev_else (by simp) (Ev.now _)), h.hs_len, h.len, h.all_len⟩
  | x :: r, done, d, ms, all, hy, hl, h => by
    have hlen : (done ++ x :: r).length = done.length + r.length + 1 := by simp; omega
    have hx := hy x (by simp)
    obtain ⟨ad, hp1, ha1, ha2⟩ := adds hs x.f1 (if x.f0 = 2 then ans else app)
    have hf := file_ev ad d ans app hs ms x.f0 x.f1 x.f2 x.f3 (Nat.le_trans h.len (by omega)) hp1
    have hr := rfile_ev ad d ans app hs ms x.f0 x.f1 x.f2 x.f3 ha1
    have ew : wrap64 ((done.length : Int) + 1) = ((done ++ [x]).length : Int) := by rw [w64 _ (by omega) (by omega)]; simp
    by_cases he : (fileV ad d ans app hs ms x.f0 x.f1 x.f2 x.f3).2.2.2.2.2.2 = 0
    · obtain ⟨ms2, rl2, e1, h2, h4, h5⟩ := h.file ad x.f0 x.f1 x.f2 x.f3 hx ha2 he
      obtain ⟨R, i1, i2, i3⟩ := play_loop ans app hs r (done ++ [x]) x.f1 ms2 (all ++ rl2) (fun y hy' => hy y (by simp [hy'])) (by simpa using hl) h2
      have hal := h2.all_len
      rw [List.length_append] at hal
      rw [e1] at hf hr
      rw [List.append_assoc] at i1 i2
      refine ⟨R, Ev.step (fun k => rfl) (ev_if (by omega) (ev_if (by omega) (ev_if (by omega) ?_))), Ev.step (fun k => rfl) (ev_if (by omega) (ev_if (by omega) ?_)), i3⟩
      · rw [rdF', ew]
        exact Ev.bind hf (ev_if rfl (ev_if (show all.length + rl2.length < 5864062014805 by omega) i1))
      · rw [rdF', ew]
        exact Ev.bind hr (ev_if rfl (ev_if (show all.length + rl2.length < 5864062014805 by omega) i2))
    · refine ⟨(0, 0, 0, [], [], [], (done.length : Int), (fileV ad d ans app hs ms x.f0 x.f1 x.f2 x.f3).2.2.2.2.2.2), Ev.step (fun k => rfl) (ev_if (by omega) (ev_if (by omega) (ev_if (by omega) ?_))), Ev.step (fun k => rfl) (ev_if (by omega) (ev_if (by omega) ?_)), Nat.zero_le _, Nat.zero_le _, Nat.zero_le _⟩
      · rw [rdF']
        exact Ev.bind hf (ev_else he (Ev.now _))
      · rw [rdF']
        exact Ev.bind hr (ev_else he (Ev.now _))
theorem play_both (day ans app : Int) (hs : List Int) (fl : List S47) (hl : fl.length ≤ 24) (hy : ∀ y ∈ fl, 0 ≤ y.f2 ∧ y.f2 < 4) :
    ∃ r : Pl, Ev (fun k => docket_Play.f k day ans app hs fl) r ∧ Ev (fun k => insolvencyref33_PlayDocket.f k day ans app hs fl) r ∧ r.2.2.2.1.length ≤ 1000 ∧ r.2.2.2.2.1.length ≤ 4 ∧ r.2.2.2.2.2.1.length ≤ 4 := by
  have h1 := new_ev day ans app hs
  have h2 := refNew_some day ans app hs
  unfold docket_Play.f insolvencyref33_PlayDocket.f
  by_cases hc : ctE day ans app hs.length = 0
  · rw [newV_ok hc] at h1 h2
    obtain ⟨R, i1, i2, i3⟩ := play_loop ans app hs fl [] day [] [] hy (by simpa using hl) ⟨hc, (fun m hm => by cases hm), List.nodup_nil, List.Perm.refl _, (fun r hr => by cases hr)⟩
    exact ⟨R, Ev.bind h1 (ev_if rfl i1), ev_then h2 (ev_if rfl i2), i3⟩
  · rw [newV_err hc] at h1 h2
    exact ⟨(0, 0, 0, [], [], [], -1, ctE day ans app hs.length), Ev.bind h1 (ev_else hc (Ev.now _)), ev_then h2 (ev_else hc (Ev.now _)), Nat.zero_le _, Nat.zero_le _, Nat.zero_le _⟩
theorem plSame_ev {r : Pl} {c : Nat → Option Bool} (h1 : r.2.2.2.1.length ≤ 1000) (h2 : r.2.2.2.2.1.length ≤ 4) (h3 : r.2.2.2.2.2.1.length ≤ 4) (h : Ev c true) : Ev (fun k => plSame k r r (c k)) true := by
  unfold plSame
  exact ev_if rfl (ev_if rfl (Ev.bind (sameDocket_ev _ _ _ _ _ (by omega) (by omega)) (ev_if rfl (Ev.bind (sameRulings_ev _ (by omega)) (ev_if rfl h)))))
theorem DocketPlay : insolvencylaw33_DocketPlay.Pure := by
  intro a0 a1 l2 l3 l4 a5 w0 w1 _ w2 _ w3 _ w4 w5
  refine Ev.rounds (g := fun k => insolvencylaw33_DocketPlay.f k a0 a1.f0 a1.f1 l2 l3 l4 a5) ?_
  unfold insolvencylaw33_DocketPlay.f
  obtain ⟨hs, t1, -, -⟩ := terms_ev a1.f0 a1.f1 l2 (u8_of w1.1) (u8_of w1.2)
  obtain ⟨fl, f1, f2, f3⟩ := fils_ev l3 w3
  obtain ⟨ml, m1, m2, m3⟩ := mats_ev l4 w4
  obtain ⟨A, A1, A2, A3, A4, A5⟩ := play_both (IntKind.i64.wrap (Int.tmod a0 4)) (1 + a1.f0 % 8) (1 + a1.f1 % 8) hs fl f2 f3
  obtain ⟨B, B1, B2, B3, B4, B5⟩ := play_both 0 (1 + a1.f0 % 8) (1 + a1.f1 % 8) hs ml m2 (fun y hy => (m3 y hy).1)
  obtain ⟨C, C1, C2, -⟩ := play_both a5 (1 + a1.f0 % 8) (1 + a1.f1 % 8) hs [] (Nat.zero_le _) (fun y hy => by cases hy)
  refine Ev.bind t1 (Ev.bind f1 (Ev.bind A1 (Ev.bind A2 (plSame_ev A3 A4 A5 (Ev.bind m1 (Ev.bind B1 (Ev.bind B2 (plSame_ev B3 B4 B5 (Ev.bind C1 (Ev.bind C2 (Ev.bind awake_ev (ev_if rfl (ev_if rfl ?_)))))))))))))
  rw [beq_self_eq_true]
  exact Ev.now _
end Go.Proofs.Ytpfiecjacpbhkaa.Pure

/- The row of DocketPlay: its arguments opened, the walk ('insolvencylaw33_DocketPlay.calls', printed), the pure statement (YtpfiecjacpbhkaaPureDocketPlay), and all shut again. Written by a program of this session's. -/
namespace Go.Proofs.Ytpfiecjacpbhkaa.docketPlay
open Go.ChangeShapes Go.WideShapes Go.ChangeAt Go.RowKit Go.Proofs.YtpfiecjacpbhkaaW.PrintWords
set_option linter.unusedVariables false
set_option linter.unusedSimpArgs false
theorem own : ownKnob Try.prog.godebug = none := by kernel_rfl
theorem laidOut : laidOutB Try.prog = true := by kernel_rfl
set_option maxRecDepth 100000 in
theorem lifted (os : Os) (started : os.Started) (H : Type) (enc : TypeId × Value → H) :
    ReturnsInHanded {} Try.checked os 10 .any (Rows.docketPlaySpec.pre6 enc Try.prog Try.f10 Rows.docketPlayRow.domain false) (Rows.docketPlaySpec.post enc Try.prog Try.f10 false true false false) := by
  refine returnsInHanded_of_change_sized (C := Try.checked) own started (by kernel_rfl) Try.func10
    (ChangeSpec.witness6 (enc := enc) (C := Try.checked) false ⟨#[], #[.int .u8 0, .agg #[.int .u8 0, .int .u8 0], .slice none 0 0, .slice none 0 0, .slice none 0 0, .int .i64 0], []⟩ 8 (by kernel_rfl) (by kernel_rfl) (by kernel_rfl) (by kernel_rfl)) ?_
  intro W base args ds gs before hval0 hW hcnd hsz0 _
  have hval : ∀ (j : Nat) t v, Try.f10.params[j]? = some t → args[j]? = some v → Value.okWide Try.prog W .any base t v := hval0
  have hW' := hW
  obtain ⟨p, q, hA0, hV, rfl, hfz, hnd⟩ := hW
  have hA : DataW.TrodAll enc Try.prog W 0 (fun _ => true) true Try.f10.params.toList args.toList ds p := hA0
  rw [Try.params10] at hA hval
  obtain ⟨v0, vs0, d0, ds0, p0, q0, hargs, rfl, rfl, h0, r0⟩ := trodAll_cons hA
  obtain ⟨v1, vs1, d1, ds1, p1, q1, rfl, rfl, rfl, h1, r1⟩ := trodAll_cons r0
  obtain ⟨v2, vs2, d2, ds2, p2, q2, rfl, rfl, rfl, h2, r2⟩ := trodAll_cons r1
  obtain ⟨v3, vs3, d3, ds3, p3, q3, rfl, rfl, rfl, h3, r3⟩ := trodAll_cons r2
  obtain ⟨v4, vs4, d4, ds4, p4, q4, rfl, rfl, rfl, h4, r4⟩ := trodAll_cons r3
  obtain ⟨v5, vs5, d5, ds5, p5, q5, rfl, rfl, rfl, h5, r5⟩ := trodAll_cons r4
  obtain ⟨rfl, rfl, rfl⟩ := trodAll_nil r5
  obtain rfl : args = #[v0, v1, v2, v3, v4, v5] := by cases args; simp_all
  obtain ⟨rfl, rfl⟩ := trodVars_none hV
  have k0 := h0
  have lt0 : ∀ x ∈ p0, x.block < W.heap.size := by obtain ⟨m, hm⟩ := k0; exact DataW.trod_lt m _ _ _ hm
  obtain ⟨a0, rfl, _, _, w0⟩ := open_int Try.underlying5 (hval 0 5 v0 rfl rfl) h0
  have k1 := h1
  have lt1 : ∀ x ∈ p1, x.block < W.heap.size := by obtain ⟨m, hm⟩ := k1; exact DataW.trod_lt m _ _ _ hm
  obtain ⟨cs1, a1, rfl, K1, w1⟩ := Ho.open_array Try.underlying22 (hval 1 22 v1 rfl rfl) h1 Ho.reads22
  obtain rfl := D.k22_open K1
  have k2 := h2
  have lt2 : ∀ x ∈ p2, x.block < W.heap.size := by obtain ⟨m, hm⟩ := k2; exact DataW.trod_lt m _ _ _ hm
  obtain ⟨A2, l2, c2, rfl, lc2, lm2, rr2, w2⟩ := Ho.open_rows Try.underlying23 (hval 2 23 v2 rfl rfl) h2 Ho.readsI_u16
  have k3 := h3
  have lt3 : ∀ x ∈ p3, x.block < W.heap.size := by obtain ⟨m, hm⟩ := k3; exact DataW.trod_lt m _ _ _ hm
  obtain ⟨A3, l3, c3, rfl, lc3, lm3, rr3, w3⟩ := Ho.open_rows Try.underlying24 (hval 3 24 v3 rfl rfl) h3 Ho.reads83
  have k4 := h4
  have lt4 : ∀ x ∈ p4, x.block < W.heap.size := by obtain ⟨m, hm⟩ := k4; exact DataW.trod_lt m _ _ _ hm
  obtain ⟨A4, l4, c4, rfl, lc4, lm4, rr4, w4⟩ := Ho.open_rows Try.underlying24 (hval 4 24 v4 rfl rfl) h4 Ho.reads83
  have k5 := h5
  have lt5 : ∀ x ∈ p5, x.block < W.heap.size := by obtain ⟨m, hm⟩ := k5; exact DataW.trod_lt m _ _ _ hm
  obtain ⟨a5, rfl, _, _, w5⟩ := open_int Try.underlying3 (hval 5 3 v5 rfl rfl) h5
  clear hA0 hval0 hsz0
  obtain ⟨k, hk⟩ := Pure.DocketPlay a0 a1 l2 l3 l4 a5 w0 w1 lm2 w2 lm3 w3 lm4 w4 w5
  refine (D.insolvencylaw33_DocketPlay.calls k a0 a1.f0 a1.f1 _ _ l2 _ _ l3 _ _ l4 a5 true W (show Kd.C _ W A2 l2.length l2 from rr2) lc2 (show Kd.C _ W A3 l3.length l3 from rr3) lc3 (show Kd.C _ W A4 l4.length l4 from rr4) lc4 hk).mono fun e W' ⟨he, bel⟩ => ?_
  subst he
  exact ⟨_, rfl, _, _, _, [], _, [], hW', trodAll_mk1 (shut_bool Try.underlying4 _), (trodAll_cons_mk (Below.trod laidOut (by kernel_rfl) (of_decide_eq_true (by kernel_rfl)) k0 bel lt0) (trodAll_cons_mk (Below.trod laidOut (by kernel_rfl) (of_decide_eq_true (by kernel_rfl)) k1 bel lt1) (trodAll_cons_mk (Below.trod laidOut (by kernel_rfl) (of_decide_eq_true (by kernel_rfl)) k2 bel lt2) (trodAll_cons_mk (Below.trod laidOut (by kernel_rfl) (of_decide_eq_true (by kernel_rfl)) k3 bel lt3) (trodAll_cons_mk (Below.trod laidOut (by kernel_rfl) (of_decide_eq_true (by kernel_rfl)) k4 bel lt4) (trodAll_cons_mk (Below.trod laidOut (by kernel_rfl) (of_decide_eq_true (by kernel_rfl)) k5 bel lt5) trodAll_mk0)))))), rfl, bel.frame _, fun h => by cases h⟩
theorem over : Rows.docketPlayRow.holds Try.pinned (OpenSpec.ofChange Rows.docketPlaySpec) :=
  OpenClaim.holds_of_wide 10 Try.f10 rfl rfl rfl rfl rfl rfl rfl ⟨rfl, rfl, rfl, rfl, rfl⟩ rfl rfl rfl rfl rfl (by kernel_rfl) Try.func10 (by kernel_rfl)
    (of_decide_eq_true (by kernel_rfl)) (by unfold Func.isWrapper; first | (rw [if_pos (by decide +kernel)]; kernel_rfl) | (rw [if_neg (by decide +kernel)]; exact ⟨rfl, rfl⟩))
    (fun os started H enc _ => lifted os started H enc)
theorem proved : Rows.DocketPlaySaid := over
#print axioms proved
end Go.Proofs.Ytpfiecjacpbhkaa.docketPlay
namespace Go.Proofs.Ytpfiecjacpbhkaa
/-- The row, under a short name, for the claim. -/
theorem docketPlay_holds : Rows.DocketPlaySaid := docketPlay.proved
end Go.Proofs.Ytpfiecjacpbhkaa
