/- What notice.Serve and the sanity check of the notice laws come to, in this seat. -/
import Derived.Test.YtmlhckcnpfokaaaDE1
import Derived.Test.YtmlhckcnpfokaaaD2
import Derived.Test.YtmlhckcnpfokaaaGserve
import Derived.Test.YtmlhckcnpfokaaaGread
namespace Go.Proofs.Ytmlhckcnpfokaaa.Hn
open Go.RowKit Go.Proofs.YtmlhckcnpfokaaaW.PrintWords Go.Proofs.YtmlhckcnpfokaaaW.PrintLast Go.Proofs.YtmlhckcnpfokaaaW.PrintMore D Ho Hw
set_option linter.unusedVariables false

theorem ev_const {α : Type} {o : Option α} {r : α} (h : o = some r) : Ev (fun _ => o) r := ⟨0, fun _ _ => h⟩
theorem ev_if {α : Type} {c : Prop} [Decidable c] {g f : Nat → Option α} {r : α} (h : c) (k : Ev g r) : Ev (fun n => if c then g n else f n) r := by
  obtain ⟨K, k⟩ := k
  exact ⟨K, fun n hn => by show (if c then g n else f n) = _; rw [if_pos h]; exact k n hn⟩
theorem ev_else {α : Type} {c : Prop} [Decidable c] {g f : Nat → Option α} {r : α} (h : ¬ c) (k : Ev f r) : Ev (fun n => if c then g n else f n) r := by
  obtain ⟨K, k⟩ := k
  exact ⟨K, fun n hn => by show (if c then g n else f n) = _; rw [if_neg h]; exact k n hn⟩
theorem ev_then {α β : Type} {o : Option α} {f : Nat → α → Option β} {a : α} {r : β} (h : o = some a) (k : Ev (fun n => f n a) r) : Ev (fun n => o.bind (f n)) r := by
  obtain ⟨K, k⟩ := k
  exact ⟨K, fun n hn => by show o.bind (f n) = _; rw [h]; exact k n hn⟩
theorem ev_unfold {α : Type} {g : Nat → Option α} {r : α} (h : Ev (fun k => g (k + 1)) r) : Ev g r := Ev.step (f := fun k => g (k + 1)) (fun _ => rfl) h
theorem w64 (x : Int) (h0 : -9223372036854775808 ≤ x) (h1 : x ≤ 9223372036854775807) : wrap64 x = x := by
  unfold wrap64
  omega
theorem w64n (n : Nat) (h : n ≤ 9223372036854775806) : wrap64 ((n : Int) + 1) = ((n + 1 : Nat) : Int) := by rw [w64 _ (by omega) (by omega)]; omega
theorem wf64 {x : Int} : (Lit.int .i64 x).wf = true ↔ -9223372036854775808 ≤ x ∧ x ≤ 9223372036854775807 := by
  simp [Lit.wf, IntKind.min, IntKind.max, IntKind.signed, IntKind.bits]
theorem wf8 {x : Int} (h : (Lit.int .u8 x).wf = true) : 0 ≤ x ∧ x ≤ 255 := by
  simp [Lit.wf, IntKind.min, IntKind.max, IntKind.signed, IntKind.bits] at h
  omega
theorem wf16 {x : Int} (h : (Lit.int .u16 x).wf = true) : 0 ≤ x ∧ x ≤ 65535 := by
  simp [Lit.wf, IntKind.min, IntKind.max, IntKind.signed, IntKind.bits] at h
  omega

abbrev Nt := S64
abbrev Ls := S69
abbrev Sv := S45

/-! ### Check -/
def chkL : List Nt → Int
  | [] => 0
  | x :: r => if x.f0 < 0 then 14 else if x.f1 < 0 ∨ x.f1 > 1048576 then 1 else chkL r
def good (e t p : Int) : Bool := decide (1 ≤ e ∧ e ≤ 1000 ∧ 1 ≤ t ∧ t ≤ 16 ∧ 0 ≤ p ∧ p ≤ 1000)
def chk (e t p : Int) (l : List Nt) (lost : List Ls) : Int := if good e t p then (if (l.length : Int) > 32 ∨ (lost.length : Int) > 256 then 2 else chkL l) else 1

theorem rdN (l : List Nt) (i : Nat) (h : i < l.length) : rd_T64 l (i : Int) = l[i] := by
  unfold rd_T64
  rw [Int.toNat_natCast, List.getD_eq_getElem?_getD, List.getElem?_eq_getElem h]
  rfl
theorem rd_nat (l : List Int) (i : Nat) (h : i < l.length) : rd l (i : Int) = l[i] := by
  unfold rd
  rw [Int.toNat_natCast, List.getD_eq_getElem?_getD, List.getElem?_eq_getElem h]
  rfl
theorem rdL (l : List Ls) (i : Nat) (h : i < l.length) : rd_T69 l (i : Int) = l[i] := by
  unfold rd_T69
  rw [Int.toNat_natCast, List.getD_eq_getElem?_getD, List.getElem?_eq_getElem h]
  rfl
theorem rdS (l : List Sv) (i : Nat) (h : i < l.length) : rd_T45 l (i : Int) = l[i] := by
  unfold rd_T45
  rw [Int.toNat_natCast, List.getD_eq_getElem?_getD, List.getElem?_eq_getElem h]
  rfl

theorem checkL_ev (l : List Nt) (hl : l.length ≤ 1000) : ∀ (n i : Nat), i ≤ l.length → l.length - i = n → Ev (fun k => notice_Check.l0 k l (l.length : Int) (i : Int)) (chkL (l.drop i)) := by
  intro n
  induction n with
  | zero =>
    intro i hi hn
    rw [List.drop_eq_nil_of_le (by omega)]
    refine Ev.step (f := fun _ => some 0) (fun k => ?_) (Ev.now _)
    rw [notice_Check.l0, if_neg (by omega)]
  | succ n ih =>
    intro i hi hn
    have hlt : i < l.length := by omega
    rw [List.drop_eq_getElem_cons hlt]
    have e := rdN l i hlt
    unfold chkL
    by_cases h0 : l[i].f0 < 0
    · rw [if_pos h0]
      refine Ev.step (f := fun _ => some 14) (fun k => ?_) (Ev.now _)
      rw [notice_Check.l0, if_pos (by omega), if_pos (by omega), if_pos (by omega), e, if_pos h0]
    · rw [if_neg h0]
      by_cases h1 : l[i].f1 < 0 ∨ l[i].f1 > 1048576
      · rw [if_pos h1]
        refine Ev.step (f := fun _ => some 1) (fun k => ?_) (Ev.now _)
        rw [notice_Check.l0, if_pos (by omega), if_pos (by omega), if_pos (by omega), e, if_neg h0]
        by_cases h2 : l[i].f1 < 0
        · rw [if_pos h2]
        · rw [if_neg h2, if_pos (by omega)]
      · rw [if_neg h1]
        refine Ev.step (f := fun k => notice_Check.l0 k l (l.length : Int) ((i + 1 : Nat) : Int)) (fun k => ?_) (ih (i + 1) (by omega) (by omega))
        rw [notice_Check.l0, if_pos (by omega), if_pos (by omega), if_pos (by omega), e, if_neg h0, if_neg (by omega), if_neg (by omega), w64n _ (by omega)]

theorem check_ev (e t p : Int) (l : List Nt) (lost : List Ls) : Ev (fun k => notice_Check.f k e t p l lost) (chk e t p l lost) := by
  have bad : good e t p = false → ∀ b : Bool, b = true → Ev (fun k => notice_Check.j0 k l lost b) (chk e t p l lost) := by
    rintro h b rfl
    unfold chk
    rw [if_neg (by simp [h])]
    refine Ev.step (f := fun _ => some 1) (fun k => ?_) (Ev.now _)
    rw [notice_Check.j0, if_pos rfl]
  have hg : good e t p = true ↔ 1 ≤ e ∧ e ≤ 1000 ∧ 1 ≤ t ∧ t ≤ 16 ∧ 0 ≤ p ∧ p ≤ 1000 := by simp [good]
  have hb : ¬ (1 ≤ e ∧ e ≤ 1000 ∧ 1 ≤ t ∧ t ≤ 16 ∧ 0 ≤ p ∧ p ≤ 1000) → good e t p = false := fun h => by
    cases hh : good e t p
    · rfl
    · exact absurd (hg.1 hh) h
  unfold notice_Check.f
  by_cases h1 : e < 1
  · exact ev_if h1 (bad (hb (by omega)) _ rfl)
  refine ev_else h1 ?_
  by_cases h2 : e > 1000
  · exact ev_if h2 (bad (hb (by omega)) _ rfl)
  refine ev_else h2 ?_
  by_cases h3 : t < 1
  · exact ev_if h3 (bad (hb (by omega)) _ rfl)
  refine ev_else h3 ?_
  by_cases h4 : t > 16
  · exact ev_if h4 (bad (hb (by omega)) _ rfl)
  refine ev_else h4 ?_
  by_cases h5 : p < 0
  · exact ev_if h5 (bad (hb (by omega)) _ rfl)
  refine ev_else h5 ?_
  by_cases h6 : p > 1000
  · exact bad (hb (by omega)) _ (decide_eq_true h6)
  rw [decide_eq_false h6]
  have hgood : good e t p = true := hg.2 (by omega)
  unfold chk
  rw [if_pos hgood]
  refine Ev.step (f := fun k => if (l.length : Int) > 32 then notice_Check.j1 k l true else notice_Check.j1 k l (decide ((lost.length : Int) > 256))) (fun k => ?_) ?_
  · rw [notice_Check.j0, if_neg (by simp)]
  have two : ∀ b : Bool, b = true → Ev (fun k => notice_Check.j1 k l b) 2 := by
    rintro b rfl
    refine Ev.step (f := fun _ => some 2) (fun k => ?_) (Ev.now _)
    rw [notice_Check.j1, if_pos rfl]
  by_cases h7 : (l.length : Int) > 32
  · rw [if_pos (.inl h7)]
    exact ev_if h7 (two _ rfl)
  refine ev_else h7 ?_
  by_cases h8 : (lost.length : Int) > 256
  · rw [if_pos (.inr h8)]
    exact two _ (decide_eq_true h8)
  rw [if_neg (by omega), decide_eq_false h8]
  refine Ev.step (f := fun k => notice_Check.l0 k l (l.length : Int) 0) (fun k => ?_) ?_
  · rw [notice_Check.j1, if_neg (by simp)]
  simpa using checkL_ev l (by omega) l.length 0 (by omega) (by omega)

theorem chk_ok {e t p : Int} {l : List Nt} {lost : List Ls} (h : chk e t p l lost = 0) : (1 ≤ e ∧ e ≤ 1000 ∧ 1 ≤ t ∧ t ≤ 16 ∧ 0 ≤ p ∧ p ≤ 1000) ∧ l.length ≤ 32 ∧ lost.length ≤ 256 ∧ ∀ x ∈ l, 0 ≤ x.f1 ∧ x.f1 ≤ 1048576 := by
  unfold chk at h
  split at h
  · rename_i hg
    split at h
    · cases h
    · refine ⟨by simpa [good] using hg, by omega, by omega, ?_⟩
      have key : ∀ l : List Nt, chkL l = 0 → ∀ x ∈ l, 0 ≤ x.f1 ∧ x.f1 ≤ 1048576 := by
        intro l
        induction l with
        | nil => intro _ x hx; cases hx
        | cons y r ih =>
          intro hy x hx
          unfold chkL at hy
          split at hy
          · cases hy
          · split at hy
            · cases hy
            · rcases List.mem_cons.1 hx with rfl | h1
              · omega
              · exact ih hy x h1
      exact key l h
  · cases h

/-! ### one notice -/
def lostAt (lost : List Ls) (i t : Int) (b : Bool) : Bool := lost.any fun x => x.f0 == i && x.f1 == t && x.f2 == b
def latest (e tr pu d : Int) : Int := wrap64 (wrap64 (d + wrap64 (e * wrap64 (tr - 1))) + pu)
/-- n tries are still to come, the next one is try t: 'day' and 'recv' are what is noted. -/
def srvL (lost : List Ls) (e tr pu d i : Int) : Nat → Int → Int → Int → Sv
  | 0, t, day, recv => ⟨latest e tr pu d, t, recv, false⟩
  | n + 1, t, day, recv =>
    if lostAt lost i t false then srvL lost e tr pu d i n (t + 1) day recv
    else if lostAt lost i t true then srvL lost e tr pu d i n (t + 1) (if recv = 0 then d + e * t else day) (recv + 1)
    else ⟨if recv = 0 then d + e * t else day, t + 1, recv + 1, true⟩
def srv (lost : List Ls) (e tr pu d i : Int) : Sv := srvL lost e tr pu d i tr.toNat 0 0 0
def quad (x : Sv) : Int × Int × Int × Bool := (x.f0, x.f1, x.f2, x.f3)

theorem look_at {lost : List Ls} {i t : Int} (b : Bool) (hi : 0 ≤ i ∧ i ≤ 1000) (ht : 0 ≤ t ∧ t ≤ 1000) : look.f lost i t b = some (lostAt lost i t b) := by
  unfold look.f
  rw [if_pos ⟨wf64.2 (by omega), wf64.2 (by omega)⟩]
  rfl

theorem day_fits {e t d : Int} (he : 1 ≤ e ∧ e ≤ 1000) (ht : 0 ≤ t ∧ t ≤ 16) (hd : 0 ≤ d ∧ d ≤ 1048576) : 0 ≤ e * t ∧ e * t ≤ 16000 := by
  constructor
  · exact Int.mul_nonneg (by omega) ht.1
  · calc e * t ≤ 1000 * t := Int.mul_le_mul_of_nonneg_right he.2 ht.1
      _ ≤ 16000 := by omega

theorem serve_ev (lost : List Ls) (e tr pu q d i : Int) (he : 1 ≤ e ∧ e ≤ 1000) (htr : 1 ≤ tr ∧ tr ≤ 16) (hd : 0 ≤ d ∧ d ≤ 1048576) (hi : 0 ≤ i ∧ i ≤ 1000) :
    ∀ (n : Nat) (t day recv : Int), t + n = tr → 0 ≤ t → 0 ≤ recv → recv ≤ t → Ev (fun k => notice_serve.l0 k i lost tr t e tr pu q d day t recv false) (quad (srvL lost e tr pu d i n t day recv)) := by
  intro n
  induction n with
  | zero =>
    intro t day recv h1 h2 h3 h4
    refine Ev.step (f := fun _ => some (quad (srvL lost e tr pu d i 0 t day recv))) (fun k => ?_) (Ev.now _)
    rw [notice_serve.l0, if_neg (by omega)]
    rfl
  | succ n ih =>
    intro t day recv h1 h2 h3 h4
    have hm := day_fits (t := t) he (by omega) hd
    have ws : wrap64 (t + 1) = t + 1 := w64 _ (by omega) (by omega)
    have wr : wrap64 (recv + 1) = recv + 1 := w64 _ (by omega) (by omega)
    have wm : wrap64 (e * t) = e * t := w64 _ (by omega) (by omega)
    have wd : wrap64 (d + e * t) = d + e * t := w64 _ (by omega) (by omega)
    have l1 := look_at (lost := lost) (i := i) (t := t) false hi (by omega)
    have l2 := look_at (lost := lost) (i := i) (t := t) true hi (by omega)
    unfold srvL
    by_cases c1 : lostAt lost i t false = true
    · rw [if_pos c1]
      refine Ev.step (f := fun k => notice_serve.l0 k i lost tr (t + 1) e tr pu q d day (t + 1) recv false) (fun k => ?_) (ih (t + 1) day recv (by omega) (by omega) h3 (by omega))
      rw [notice_serve.l0, if_pos (by omega), l1, Option.bind_some, if_pos c1, ws]
    · rw [if_neg c1]
      by_cases c2 : lostAt lost i t true = true
      · rw [if_pos c2]
        refine Ev.step (f := fun k => notice_serve.l0 k i lost tr (t + 1) e tr pu q d (if recv = 0 then d + e * t else day) (t + 1) (recv + 1) false) (fun k => ?_) (ih (t + 1) _ (recv + 1) (by omega) (by omega) (by omega) (by omega))
        rw [notice_serve.l0, if_pos (by omega), l1, Option.bind_some, if_neg c1]
        by_cases c3 : recv = 0
        · rw [if_pos c3, if_pos c3, l2, Option.bind_some, if_pos c2, ws, wr, wm, wd]
        · rw [if_neg c3, if_neg c3, l2, Option.bind_some, if_pos c2, ws, wr]
      · rw [if_neg c2]
        refine Ev.step (f := fun _ => some (quad ⟨if recv = 0 then d + e * t else day, t + 1, recv + 1, true⟩)) (fun k => ?_) (Ev.now _)
        rw [notice_serve.l0, if_pos (by omega), l1, Option.bind_some, if_neg c1]
        by_cases c3 : recv = 0
        · rw [if_pos c3, if_pos c3, l2, Option.bind_some, if_neg c2, ws, wr, wm, wd]
          rfl
        · rw [if_neg c3, if_neg c3, l2, Option.bind_some, if_neg c2, ws, wr]
          rfl

/-! ### all notices -/
def srvs (lost : List Ls) (e tr pu : Int) : List Nt → Nat → List Sv
  | [], _ => []
  | x :: r, i => srv lost e tr pu x.f1 i :: srvs lost e tr pu r (i + 1)
theorem srvs_length (lost : List Ls) (e tr pu : Int) : ∀ (l : List Nt) (i : Nat), (srvs lost e tr pu l i).length = l.length
  | [], _ => rfl
  | x :: r, i => by simp [srvs, srvs_length lost e tr pu r (i + 1)]
theorem srvs_get (lost : List Ls) (e tr pu : Int) : ∀ (l : List Nt) (i j : Nat) (h : j < (srvs lost e tr pu l i).length) (h' : j < l.length), (srvs lost e tr pu l i)[j] = srv lost e tr pu l[j].f1 ((i + j : Nat) : Int)
  | [], _, j, _, h => absurd h (by simp)
  | x :: r, i, 0, _, _ => by simp [srvs]
  | x :: r, i, j + 1, h, h' => by
    have := srvs_get lost e tr pu r (i + 1) j (by simpa [srvs] using h) (by simpa using h')
    simp only [srvs, List.getElem_cons_succ]
    rw [this, show i + 1 + j = i + (j + 1) by omega]
def served (lost : List Ls) (e tr pu : Int) (l : List Nt) : List Sv × Int := if chk e tr pu l lost = 0 then (srvs lost e tr pu l 0, 0) else ([], chk e tr pu l lost)

theorem mk_quad (x : Sv) : (⟨(quad x).1, (quad x).2.1, (quad x).2.2.1, (quad x).2.2.2⟩ : Sv) = x := rfl

theorem serveAll_ev (lost : List Ls) (e tr pu : Int) (l : List Nt) (hok : ∀ x ∈ lost, ((Lit.int .i64 x.f0).wf = true ∧ (Lit.int .i64 x.f1).wf = true)) : Ev (fun k => notice_Serve.f k e tr pu l lost) (served lost e tr pu l) := by
  unfold notice_Serve.f served
  refine Ev.bind (check_ev e tr pu l lost) ?_
  by_cases h0 : chk e tr pu l lost = 0
  · rw [if_pos h0]
    obtain ⟨⟨h1, h2, h3, h4, h5, h6⟩, hl, hlo, hday⟩ := chk_ok h0
    refine ev_if h0 (ev_if ?_ ?_)
    · simp only [okLoss, Bool.and_eq_true, decide_eq_true_eq, List.all_eq_true]
      exact ⟨by omega, fun x hx => by have := hok x hx; simpa using this⟩
    have key : ∀ (n i : Nat) (acc : List Sv), i ≤ l.length → l.length - i = n → acc.length ≤ i → Ev (fun k => notice_Serve.l0 k lost acc l (l.length : Int) (i : Int) e tr pu) (acc ++ srvs lost e tr pu (l.drop i) i, 0) := by
      intro n
      induction n with
      | zero =>
        intro i acc hi hn ha
        rw [List.drop_eq_nil_of_le (by omega)]
        refine Ev.step (f := fun _ => some (acc ++ srvs lost e tr pu [] i, 0)) (fun k => ?_) (Ev.now _)
        rw [notice_Serve.l0, if_neg (by omega)]
        simp [srvs]
      | succ n ih =>
        intro i acc hi hn ha
        have hlt : i < l.length := by omega
        have ex := rdN l i hlt
        have hdy := hday l[i] (List.getElem_mem hlt)
        refine ev_unfold ?_
        simp only [notice_Serve.l0, ex]
        refine ev_if (by omega) (ev_if (by omega) (ev_if (by omega) ?_))
        have sv : Ev (fun k => notice_serve.f k e tr pu l[i].f0 l[i].f1 (i : Int) lost) (quad (srv lost e tr pu l[i].f1 i)) := by
          unfold notice_serve.f srv
          exact serve_ev lost e tr pu _ _ _ ⟨h1, h2⟩ ⟨h3, h4⟩ hdy (by omega) tr.toNat 0 0 0 (by omega) (by omega) (by omega) (by omega)
        refine Ev.bind sv (ev_if (by omega) ?_)
        rw [mk_quad, w64n _ (by omega)]
        have := ih (i + 1) (acc ++ [srv lost e tr pu l[i].f1 i]) (by omega) (by omega) (by simp; omega)
        rw [List.drop_eq_getElem_cons hlt]
        simpa [srvs] using this
    simpa using key l.length 0 [] (by omega) (by omega) (by simp)
  · rw [if_neg h0]
    exact ev_else h0 (Ev.now _)

theorem served_ok {lost : List Ls} {e tr pu : Int} {l : List Nt} (h : chk e tr pu l lost = 0) : Hn.served lost e tr pu l = (srvs lost e tr pu l 0, 0) := by
  unfold Hn.served
  rw [if_pos h]
theorem tm_pos {x n : Int} (hx : 0 ≤ x) (hn : 0 < n) : 0 ≤ Int.tmod x n ∧ Int.tmod x n < n := by
  rw [Int.tmod_eq_emod_of_nonneg hx]
  exact ⟨Int.emod_nonneg _ (by omega), Int.emod_lt_of_pos _ hn⟩

/-! ### the sanity check -/
theorem awake_ev : Ev (fun k => insolvencylaw34_awake.f k) true := by
  have a1 := serveAll_ev [(⟨0, 0, false⟩ : Ls)] 3 2 10 [(⟨0, 5⟩ : Nt)] (by simp [wf64])
  have a2 := serveAll_ev [(⟨0, 0, true⟩ : Ls), ⟨0, 1, true⟩] 3 2 10 [(⟨0, 5⟩ : Nt)] (by simp [wf64])
  rw [show served [(⟨0, 0, false⟩ : Ls)] 3 2 10 [(⟨0, 5⟩ : Nt)] = ([⟨8, 2, 1, true⟩], 0) from by kernel_rfl] at a1
  rw [show served [(⟨0, 0, true⟩ : Ls), ⟨0, 1, true⟩] 3 2 10 [(⟨0, 5⟩ : Nt)] = ([⟨18, 2, 2, false⟩], 0) from by kernel_rfl] at a2
  unfold insolvencylaw34_awake.f
  refine ev_then rfl (Ev.bind a1 (Ev.bind a2 ?_))
  exact ev_const (by decide)
end Go.Proofs.Ytmlhckcnpfokaaa.Hn
