/- Arguments of the laws, opened: structs and small arrays of plain fields, slices of these and of integers: each told as a Lean list, with what the reader says of its numbers. -/
import Derived.Test.YtmlhckcnpfokaaaD0
import Derived.OpenShut
import Derived.Deep.Slices
import Derived.Deep.Fields
import Derived.ChangeSame
import Derived.ProofKit
import Derived.SizedLaws
import Derived.Test.YtmlhckcnpfokaaaWSized
namespace Go.Proofs.Ytmlhckcnpfokaaa.Ho
open Go.RowKit Go.ChangeShapes Go.WideShapes Go.Deep Go.Proofs.YtmlhckcnpfokaaaW.PrintWords
open Go.Proofs.Ytmlhckcnpfokaaa.D

/-- Row by row, a list. -/
theorem rows_of {α : Type} {R : α → List Value → Prop} (ok : α → Prop) {size : Nat} {w : World} {A : Option Addr} {n : Nat} (hn : n ≤ maxLen)
    (h : 0 < n → ∃ ad, A = some ad ∧ ∀ i, i < n → ∃ x c, c.length = size ∧ R x c ∧ ok x ∧ ∀ j u, c[j]? = some u → w.cell? (ad.add (i * size + j)) = some u) :
    ∃ l : List α, n = l.length ∧ ReadsRow R size w A l.length l ∧ ∀ x ∈ l, ok x := by
  rcases Nat.eq_zero_or_pos n with h0 | hp
  · subst h0
    exact ⟨[], rfl, ⟨rfl, Nat.zero_le _, fun h => absurd h (Nat.lt_irrefl 0)⟩, fun x hx => by cases hx⟩
  · obtain ⟨ad, eA, hrow⟩ := h hp
    have key : ∀ m, m ≤ n → ∃ l : List α, l.length = m ∧ (∀ (j : Nat) (p : α), l[j]? = some p → ∃ c : List Value, c.length = size ∧ R p c ∧ ∀ i u, c[i]? = some u → w.cell? (ad.add (j * size + i)) = some u) ∧ ∀ x ∈ l, ok x := by
      intro m
      induction m with
      | zero => exact fun _ => ⟨[], rfl, fun j p hj => by simp at hj, fun x hx => by cases hx⟩
      | succ m ih =>
        intro hm
        obtain ⟨l, hl, hr, hok⟩ := ih (by omega)
        obtain ⟨x, c, hs, hR, hx, hcell⟩ := hrow m (by omega)
        refine ⟨l ++ [x], by simp [hl], ?_, ?_⟩
        · intro j p hj
          by_cases hlt : j < l.length
          · rw [List.getElem?_append_left hlt] at hj
            exact hr j p hj
          · have hle : l.length ≤ j := by omega
            rw [List.getElem?_append_right hle] at hj
            have e0 : j - l.length = 0 := by
              rcases Nat.eq_zero_or_pos (j - l.length) with e | e
              · exact e
              · rw [List.getElem?_eq_none (by simp; omega)] at hj
                cases hj
            rw [e0] at hj
            have ej : j = m := by omega
            subst ej
            have ex : x = p := by simpa using hj
            subst ex
            exact ⟨c, hs, hR, hcell⟩
        · intro y hy
          rcases List.mem_append.1 hy with h1 | h1
          · exact hok y h1
          · have : y = x := by simpa using h1
            subst this
            exact hx
    obtain ⟨l, hl, hr, hok⟩ := key n (Nat.le_refl _)
    refine ⟨l, hl.symm, ⟨rfl, ?_, fun _ => ⟨ad, eA, hr⟩⟩, hok⟩
    rw [hl]
    unfold maxLen at hn
    omega

section
variable {H : Type} {enc : TypeId × Value → H} {P : Program} {w : World} {base : Nat} {spare : Nat → Bool} {held : Bool}

/-- What the reader reads of type e, read as R, with 'ok'. -/
def Reads (enc : TypeId × Value → H) (P : Program) (w : World) (base : Nat) (spare : Nat → Bool) (held : Bool) {α : Type} (e : TypeId) (R : α → List Value → Prop) (ok : α → Prop) : Prop :=
  ∀ (n : Nat) (cs : List Value) (x : DataW H × List MemPlace), cs.length = P.cellsOf e → DataW.trod enc P w base spare held n e cs = some x → ∃ a : α, R a cs ∧ ok a

theorem reads_int {t : TypeId} {k : IntKind} (ht : P.underlying t = some (.int k)) : Reads enc P w base spare held t (fun (a : Int) cs => cs = [.int k a]) (fun a => (Lit.int k a).wf = true) := by
  intro n cs x _ h
  cases n with
  | zero => simp [DataW.trod] at h
  | succ n =>
    unfold DataW.trod at h
    rw [ht] at h
    split at h <;> simp_all

theorem reads_bool {t : TypeId} (ht : P.underlying t = some .bool) : Reads enc P w base spare held t (fun (a : Bool) cs => cs = [.bool a]) (fun _ => True) := by
  intro n cs x _ h
  cases n with
  | zero => simp [DataW.trod] at h
  | succ n =>
    unfold DataW.trod at h
    rw [ht] at h
    split at h <;> simp_all

/-- A slice's own length (in bytes, from the sizes), its cells row by row. -/
theorem open_rows {α : Type} {t e : TypeId} {R : α → List Value → Prop} {ok : α → Prop} {v : Value} {d : DataW H} {p : List MemPlace} {r : Reach} {b0 : Nat} (ht : P.underlying t = some (.slice e)) (hv : Value.okWide P w r b0 t v)
    (h : DataW.Trod enc P w base spare held t v d p) (hR : Reads enc P w base spare held e R ok) :
    ∃ (A : Option Addr) (l : List α) (cap : Nat), v = .slice A l.length cap ∧ l.length ≤ cap ∧ l.length ≤ maxLen ∧ ReadsRow R (P.cellsOf e) w A l.length l ∧ ∀ x ∈ l, ok x := by
  obtain ⟨A, len, cap, rfl⟩ := okWide_slice ht hv
  obtain ⟨fuel, hf⟩ := h
  rcases open_slice ht hf with ⟨hcs, _⟩ | ⟨a, len', cap', m, n, D, Pl, hcs, _, hl, hm, hmm, _, hi⟩
  · simp [Value.cells] at hcs
    obtain ⟨rfl, rfl, rfl⟩ := hcs
    exact ⟨none, [], 0, rfl, Nat.zero_le _, Nat.zero_le _, ⟨rfl, Nat.zero_le _, fun h => absurd h (Nat.lt_irrefl 0)⟩, fun x hx => by cases hx⟩
  · simp [Value.cells] at hcs
    obtain ⟨rfl, rfl, rfl⟩ := hcs
    have hlm : len ≤ m := by rw [hmm]; split <;> omega
    obtain ⟨l, rfl, hr, hok⟩ := rows_of (R := R) (w := w) (A := some a) (size := P.cellsOf e) ok (n := len) (by omega) (fun _ => ⟨a, rfl, fun i hi' => by
      obtain ⟨cs', hc, ht'⟩ := hi i (by omega)
      obtain ⟨_, hcl, hat⟩ := World.cells?_some hc
      obtain ⟨x, hx, hx'⟩ := hR n cs' _ hcl ht'
      refine ⟨x, cs', hcl, hx, hx', fun j u hu => ?_⟩
      have hj : j < cs'.length := (List.getElem?_eq_some_iff.1 hu).1
      rw [← Go.Deep.add_add, hat j (by omega), hu]⟩)
    exact ⟨some a, l, cap, rfl, hl, by omega, hr, hok⟩

/-- A struct by value. -/
theorem open_struct {α : Type} {t : TypeId} {fs : Array Field} {R : α → List Value → Prop} {ok : α → Prop} {v : Value} {d : DataW H} {p : List MemPlace} {r : Reach} {b0 : Nat} (ht : P.underlying t = some (.struct fs)) (hv : Value.okWide P w r b0 t v)
    (h : DataW.Trod enc P w base spare held t v d p) (hR : Reads enc P w base spare held t R ok) : ∃ (cs : List Value) (a : α), v = .agg cs.toArray ∧ R a cs ∧ ok a := by
  obtain ⟨cs, rfl, hsz⟩ := okWide_struct ht hv
  obtain ⟨fuel, hf⟩ := h
  obtain ⟨l⟩ := cs
  have e1 : (Value.agg ⟨l⟩).cells.toList = l := by simp [Value.cells]
  rw [e1] at hf
  obtain ⟨a, ha, ha'⟩ := hR fuel l _ (by simpa using hsz) hf
  exact ⟨l, a, rfl, ha, ha'⟩

/-- An array by value. -/
theorem open_array {α : Type} {t e : TypeId} {n : Nat} {R : α → List Value → Prop} {ok : α → Prop} {v : Value} {d : DataW H} {p : List MemPlace} {r : Reach} {b0 : Nat} (ht : P.underlying t = some (.array n e)) (hv : Value.okWide P w r b0 t v)
    (h : DataW.Trod enc P w base spare held t v d p) (hR : Reads enc P w base spare held t R ok) : ∃ (cs : List Value) (a : α), v = .agg cs.toArray ∧ R a cs ∧ ok a := by
  simp only [Value.okWide, ht] at hv
  obtain ⟨cs, rfl, hsz, _⟩ := hv
  obtain ⟨fuel, hf⟩ := h
  obtain ⟨l⟩ := cs
  have e1 : (Value.agg ⟨l⟩).cells.toList = l := by simp [Value.cells]
  rw [e1] at hf
  obtain ⟨a, ha, ha'⟩ := hR fuel l _ (by simpa using hsz) hf
  exact ⟨l, a, rfl, ha, ha'⟩

/-- One field of a struct (or one element of an array) of one cell. -/
theorem field_at {e : TypeId} {fs : Array Field} {n : Nat} {cs : List Value} {x : DataW H × List MemPlace} (he : P.underlying e = some (.struct fs)) (hone : oneCellFields P fs = true) (h : DataW.trod enc P w base spare held n e cs = some x) :
    ∃ m, ∀ (j : Nat) (f : Field) (v : Value), fs[j]? = some f → cs[j]? = some v → P.cellsOf f.type = 1 ∧ ∃ y, DataW.trod enc P w base spare held m f.type [v] = some y := by
  obtain ⟨ys, m, _, _, hlen, hyl, hf⟩ := DataW.trod_struct he h
  refine ⟨m, fun j f v hj hv => ?_⟩
  obtain ⟨ho, hk⟩ := hone_of hone j f hj
  have h1 := hf j f hj
  rw [ho, hk] at h1
  obtain ⟨hjc, hvj⟩ := List.getElem?_eq_some_iff.1 hv
  have hone' : (cs.drop j).take 1 = [v] := by
    rw [List.drop_eq_getElem_cons hjc, hvj]
    rfl
  rw [hone'] at h1
  have hjl : j < ys.length := by have := (Array.getElem?_eq_some_iff.1 hj).1; omega
  exact ⟨hk, ys[j], h1.trans (List.getElem?_eq_getElem hjl)⟩

theorem elem_at {e e' : TypeId} {k n : Nat} {cs : List Value} {x : DataW H × List MemPlace} (he : P.underlying e = some (.array k e')) (hone : P.cellsOf e' = 1) (h : DataW.trod enc P w base spare held n e cs = some x) :
    ∃ m, ∀ (j : Nat) (v : Value), j < k → cs[j]? = some v → ∃ y, DataW.trod enc P w base spare held m e' [v] = some y := by
  obtain ⟨ys, m, _, _, hlen, hyl, hf⟩ := DataW.trod_array he h
  refine ⟨m, fun j v hj hv => ?_⟩
  have h1 := hf j hj
  rw [hone, Nat.mul_one] at h1
  obtain ⟨hjc, hvj⟩ := List.getElem?_eq_some_iff.1 hv
  have hone' : (cs.drop j).take 1 = [v] := by
    rw [List.drop_eq_getElem_cons hjc, hvj]
    rfl
  rw [hone'] at h1
  exact ⟨ys[j]'(by omega), h1.trans (List.getElem?_eq_getElem (by omega))⟩
end
end Go.Proofs.Ytmlhckcnpfokaaa.Ho
