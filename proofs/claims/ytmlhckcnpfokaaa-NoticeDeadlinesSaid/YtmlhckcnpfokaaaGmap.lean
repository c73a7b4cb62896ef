/- The set of losses that notice.Serve makes (a map from losses to bools) told by the list of the losses that were put into it. -/
import Derived.Test.YtmlhckcnpfokaaaD0
import Derived.Maps.Own
import Derived.Maps.Views
import Derived.DeepKeys4
namespace Go.Proofs.Ytmlhckcnpfokaaa.Hw
set_option linter.unusedSimpArgs false
open Go.RowKit Go.Maps Go.Proofs.YtmlhckcnpfokaaaW.PrintWords
open Go.Proofs.Ytmlhckcnpfokaaa.D

/-- A loss as a value. -/
abbrev lossV (i t : Int) (b : Bool) : Value := .agg #[.int .i64 i, .int .i64 t, .bool b]
theorem rowKey : (69 : TypeId) < Try.prog.types.size := of_decide_eq_true (by kernel_rfl)
theorem laidOutX : laidOutB Try.prog = true := by kernel_rfl
theorem deepKey : Try.prog.keyTypeAt (Try.prog.types.size + 1) 69 = true := by kernel_rfl
theorem wideKey : (match Try.prog.underlying 69 with | some (.array _ _) | some (.struct _) => true | _ => false) = true := by rw [Try.underlying69]
theorem lawKey : Keyed Try.prog 69 := Keyed.of_law (deep_law_laid laidOutX (m := 2) (by omega) rowKey (by kernel_rfl) wideKey)
theorem undMap : Try.prog.underlying 76 = some (.map 69 4) := by kernel_rfl
theorem undBool : Try.prog.underlying 4 = some .bool := by kernel_rfl
theorem undInt : Try.prog.underlying 3 = some (.int .i64) := by kernel_rfl
theorem zeroBool (w : World) : (zeroValue 4).run Try.prog w = .ok (.bool false) w := by kernel_rfl
theorem cellsLoss : Try.prog.cellsOf 69 = 3 := by kernel_rfl
theorem cellsInt : Try.prog.cellsOf 3 = 1 := by kernel_rfl
theorem cellsBool : Try.prog.cellsOf 4 = 1 := by kernel_rfl
theorem keyTypeLoss : Try.prog.keyType 69 = true := by kernel_rfl

set_option maxRecDepth 100000 in
theorem key_some (i t : Int) (b : Bool) (hi : (Lit.int .i64 i).wf = true) (ht : (Lit.int .i64 t).wf = true) : ∃ kl, keyOf Try.prog 69 (lossV i t b) = some kl := by
  have hf : (lossV i t b).formed Try.prog 69 = true := by simp [Value.formed, Try.underlying69, cellsLoss]
  unfold keyOf
  rw [Try.underlying69]
  simp only [keyTypeLoss, hf, Bool.and_self, if_true]
  obtain ⟨m, hm⟩ := Nat.exists_eq_succ_of_ne_zero (Nat.ne_of_gt (Nat.lt_of_le_of_lt (Nat.zero_le _) rowKey))
  rw [hm]
  simp [lossV, Value.cells, Program.keyLits, Try.underlying69, undInt, undBool, cellsLoss, cellsInt, cellsBool, hi, ht]

/-- Block g is the set of the losses of the list l. -/
def IsSet (W : World) (g : Nat) (l : List S69) : Prop :=
  ∃ n D, n ≤ l.length ∧ W.ownsMap Try.prog 69 (plainElem (H := Unit) Try.prog 4) g n D ∧
    ∀ (i t : Int) (b : Bool) (kl : Lit), (Lit.int .i64 i).wf = true → (Lit.int .i64 t).wf = true → keyOf Try.prog 69 (lossV i t b) = some kl →
      D.atKey kl (.lit (.bool false)) = .lit (.bool (l.any fun x => x.f0 == i && x.f1 == t && x.f2 == b))

theorem IsSet.lt {W : World} {g : Nat} {l : List S69} (h : IsSet W g l) : g < W.heap.size := by
  obtain ⟨n, D, _, h2, _⟩ := h
  exact h2.lt

theorem IsSet.made (w : World) : IsSet (w.alloc (.map #[] 0)) w.heap.size [] :=
  ⟨0, .map [], Nat.le_refl _, World.ownsMap_made w _ _ _, fun i t b kl _ _ _ => by simp [DataW.atKey]⟩

theorem IsSet.same {W W' : World} {g : Nat} {l : List S69} (h : IsSet W g l) (e : W'.heap[g]? = W.heap[g]?) : IsSet W' g l := by
  obtain ⟨n, D, h1, ⟨es, clock, hb, F, hs, hD⟩, h3⟩ := h
  exact ⟨n, D, h1, ⟨es, clock, e.trans hb, F, hs, hD⟩, h3⟩

theorem IsSet.alloc {W : World} {g : Nat} {l : List S69} (h : IsSet W g l) (o : Obj) : IsSet (W.alloc o) g l := by
  obtain ⟨n, D, h1, h2, h3⟩ := h
  exact ⟨n, D, h1, h2.alloc o, h3⟩

theorem IsSet.drew {W : World} {g : Nat} {l : List S69} (h : IsSet W g l) : IsSet W.drew g l := h

/-- What is laid beyond a world in which the set stood leaves the set as it is. -/
theorem IsSet.below {W W' : World} {g : Nat} {l : List S69} (h : IsSet W g l) (hb : Below W.heap.size W W') : IsSet W' g l := h.same (hb.block g h.lt)

/-- A write into another block. -/
theorem IsSet.grown {W W' : World} {row : Option Nat} {g : Nat} {l : List S69} (h : IsSet W g l) (hg : W.grownBy W' row) (hne : some g ≠ row) : IsSet W' g l := by
  obtain ⟨n, D, h1, h2, h3⟩ := h
  exact ⟨n, D, h1, h2.kept hg hne, h3⟩

theorem IsSet.far {W : World} {g : Nat} {l : List S69} (h : IsSet W g l) {p : Addr} (hp : g ≠ p.block) (u : Value) : IsSet (W.setCell p u) g l := h.same (Below.heap_setCell W p u g hp)

/-- The block itself, and what it is good for wherever it stands. -/
theorem IsSet.obj {W : World} {g : Nat} {l : List S69} (h : IsSet W g l) : ∃ es ck, W.heap[g]? = some (.map es ck) ∧ ∀ (W' : World) (g' : Nat), W'.heap[g']? = some (.map es ck) → IsSet W' g' l := by
  obtain ⟨n, D, h1, ⟨es, ck, hb, F, hs, hD⟩, h3⟩ := h
  exact ⟨es, ck, hb, fun W' g' h' => ⟨n, D, h1, ⟨es, ck, h', F, hs, hD⟩, h3⟩⟩

theorem blk_farM {w : World} {g : Nat} {o : Obj} (h : w.heap[g]? = some o) {p : Addr} (hp : g ≠ p.block) (u : Value) : (w.setCell p u).heap[g]? = some o := (Below.heap_setCell w p u g hp).trans h

theorem below_grownM {w W W' : World} {g : Nat} (h : Below w.heap.size w W) (hg : W.grownBy W' (some g)) (hr : w.heap.size ≤ g) : Below w.heap.size w W' := h.grown hg h.size (fun k hk => by cases hk; exact hr)

theorem R_ne_map {α : Type} {d : Kd α} {e base g : Nat} {w : World} {ok : Nat → Prop} {v : Value} {xs : List α} {es : Array MapEntry} {ck : Nat} (h : d.R e w base ok v xs) (hb : w.heap[g]? = some (.map es ck)) : some g ≠ v.ownBlock := by
  obtain ⟨inner, ho, _⟩ := h.2
  rcases ho.2 with ⟨rfl, _⟩ | ⟨g', cap, cur, rfl, _, hh, _⟩
  · simp [Value.ownBlock]
  · intro he
    have e' : g = g' := by simpa [Value.ownBlock] using he
    subst e'
    rw [hb] at hh
    cases hh

/-- The losses' numbers are such as a program can hold, and there are not too many of them. -/
def okLoss (l : List S69) : Bool := decide (l.length < 1000000000) && l.all fun x => (Lit.int .i64 x.f0).wf && (Lit.int .i64 x.f1).wf

theorem okLoss_len {l : List S69} (h : okLoss l = true) (j : Nat) : (l.take j).length < maxLen := by
  simp only [okLoss, Bool.and_eq_true, decide_eq_true_eq] at h
  have := List.length_take_le' j l
  unfold maxLen
  omega

theorem okLoss_at {l : List S69} (h : okLoss l = true) {j : Nat} (hj : j < l.length) : (Lit.int .i64 (rd_T69 l j).f0).wf = true ∧ (Lit.int .i64 (rd_T69 l j).f1).wf = true := by
  simp only [okLoss, Bool.and_eq_true, decide_eq_true_eq, List.all_eq_true] at h
  have h2 : rd_T69 l j ∈ l := by
    unfold rd_T69
    rw [show ((j : Nat) : Int).toNat = j from Int.toNat_natCast j, List.getD_eq_getElem?_getD, List.getElem?_eq_getElem hj]
    exact List.getElem_mem hj
  exact h.2 _ h2

theorem wrap_step {l : List S69} (h : okLoss l = true) {j : Nat} (hj : j < l.length) : wrap64 ((j : Int) + 1) = ((j + 1 : Nat) : Int) := by
  simp only [okLoss, Bool.and_eq_true, decide_eq_true_eq] at h
  have h1 := h.1
  clear h
  rw [show ((j + 1 : Nat) : Int) = (j : Int) + 1 by omega]
  unfold wrap64
  omega

theorem meas_step {n j : Nat} {x : Int} (hx : x = ((j + 1 : Nat) : Int)) (h : j < n) : n - (intOf (.int .i64 x)).toNat < n - (intOf (.int .i64 (j : Int))).toNat := by
  subst hx
  show n - Int.toNat ((j + 1 : Nat) : Int) < n - Int.toNat (j : Int)
  rw [Int.toNat_natCast, Int.toNat_natCast]
  omega

theorem take_step (l : List S69) {j : Nat} (hj : j < l.length) : l.take (j + 1) = l.take j ++ [rd_T69 l j] := by
  unfold rd_T69
  rw [show ((j : Nat) : Int).toNat = j from Int.toNat_natCast j, List.getD_eq_getElem?_getD, List.getElem?_eq_getElem hj, List.take_add_one, List.getElem?_eq_getElem hj]
  rfl

/-- Is a loss among those of the list? -/
def look.f (l : List S69) (i t : Int) (b : Bool) : Option Bool :=
  if (Lit.int .i64 i).wf = true ∧ (Lit.int .i64 t).wf = true then some (l.any fun x => x.f0 == i && x.f1 == t && x.f2 == b) else none

section
variable {P : Program} {ops : Array Oper} {Q : Exit → Act → World → Prop}
theorem gate_look {t : TypeId} {m x : Operand} {c : Bool} {o : Oper} {rest : List Oper} {a : Act} {W : World} (_ho : o.op = Op.lookup t m x c) (h : wpList P ops Q (o :: rest) a W) : wpList P ops Q (o :: rest) a W := h

theorem gate_put {t : TypeId} {m x v : Operand} {o : Oper} {rest : List Oper} {a : Act} {W : World} (_ho : o.op = Op.mapUpdate t m x v) (h : wpList P ops Q (o :: rest) a W) : wpList P ops Q (o :: rest) a W := h

theorem plainElem_bool_inv {v : Value} {z : DataW Unit × List MemPlace} (h : plainElem Try.prog 4 v = some z) : ∃ x, v = .bool x ∧ z = (.lit (.bool x), []) := by
  unfold plainElem at h
  rw [undBool] at h
  cases v <;> simp at h
  subst h
  exact ⟨_, rfl, rfl⟩

theorem lookL_ {rest : List Oper} {oi : Oper} {a : Act} {w : World} (N : Option Tmp) (hd : oi.dst = N) (hg : oi.guard = none) {m x : Operand} (hop : oi.op = Op.lookup 76 m x false)
    {g : Nat} {l : List S69} {i t : Int} {b : Bool} (hm : a.eval m = .map (some g)) (hx : a.eval x = lossV i t b) (hs : IsSet w g l) (i' t' : Int) (b' r : Bool) (hf : look.f l i' t' b' = some r)
    (h : wpList Try.prog ops Q rest (a.put N (.bool r)) w) (hi : i = i' := by rfl) (ht : t = t' := by rfl) (hb : b = b' := by rfl) : wpList Try.prog ops Q (oi :: rest) a w := by
  subst hi ht hb
  obtain ⟨n, D, _, h2, h3⟩ := hs
  unfold look.f at hf
  by_cases hw : (Lit.int .i64 i).wf = true ∧ (Lit.int .i64 t).wf = true
  · rw [if_pos hw] at hf
    obtain ⟨kl, hk⟩ := key_some i t b hw.1 hw.2
    obtain ⟨v, ps, hrun, hv⟩ := h2.lookup lawKey undMap (zeroBool w) (plainElem_bool undBool false) hk
    obtain ⟨x', rfl, hz⟩ := plainElem_bool_inv hv
    have e3 := h3 i t b kl hw.1 hw.2 hk
    have e4 : x' = r := by
      have e5 := (congrArg Prod.fst hz).symm.trans e3
      simp only [DataW.lit.injEq, Lit.bool.injEq] at e5
      exact e5.trans (Option.some.inj hf)
    subst e4
    refine wpList_plain hg fun K' hK' => ?_
    unfold Oper.wp
    simp [execOp, hop, hm, hx, hrun, Result.andThen]
    subst hd
    exact hK' _ _ h
  · rw [if_neg hw] at hf
    cases hf

/-- 'set[x] = true'. -/
theorem putL_ {rest : List Oper} {oi : Oper} {a : Act} {w : World} (hd : oi.dst = none) (hg : oi.guard = none) {m x v : Operand} (hop : oi.op = Op.mapUpdate 76 m x v)
    {g : Nat} {l : List S69} (y : S69) (hm : a.eval m = .map (some g)) (hx : a.eval x = lossV y.f0 y.f1 y.f2) (hv : a.eval v = .bool true) (hs : IsSet w g l) (hy0 : (Lit.int .i64 y.f0).wf = true) (hy1 : (Lit.int .i64 y.f1).wf = true) (hl : l.length < maxLen)
    (h : ∀ w', IsSet w' g (l ++ [y]) → w.grownBy w' (some g) → wpList Try.prog ops Q rest (a.put none undef) w') : wpList Try.prog ops Q (oi :: rest) a w := by
  obtain ⟨n, D, h1, h2, h3⟩ := hs
  obtain ⟨kl0, hk0⟩ := key_some y.f0 y.f1 y.f2 hy0 hy1
  refine wpList_mapUpdate_own w hg m x v 76 hop 69 4 lawKey undMap _ g n D hm h2 (by omega) _ _ kl0 hx hv hk0 _ [] (plainElem_bool undBool true) ?_
  intro w' o1 o2
  rw [hd]
  refine h w' ⟨n + 1, _, by simp; omega, o1, ?_⟩ o2
  intro i t b kl hi ht hk
  have hM : IsMap D := by obtain ⟨es, clock, _, _, _, rfl⟩ := h2; exact ⟨_, rfl⟩
  by_cases e : kl = kl0
  · subst e
    have e2 := lawKey.inj hk hk0
    simp only [lossV, Value.agg.injEq] at e2
    have e3 : (i = y.f0 ∧ t = y.f1) ∧ b = y.f2 := by simpa [and_assoc] using e2
    obtain ⟨⟨rfl, rfl⟩, rfl⟩ := e3
    rw [atKey_put_same hM (lawKey.key hk)]
    simp
  · have hne : ¬ (y.f0 = i ∧ y.f1 = t ∧ y.f2 = b) := by
      rintro ⟨rfl, rfl, rfl⟩
      exact e (Option.some.inj (hk.symm.trans hk0))
    rw [atKey_put_other e, h3 i t b kl hi ht hk]
    have hz : (y.f0 == i && y.f1 == t && y.f2 == b) = false := by
      cases hq : (y.f0 == i && y.f1 == t && y.f2 == b)
      · rfl
      · simp only [Bool.and_eq_true, beq_iff_eq] at hq
        exact absurd ⟨hq.1.1, hq.1.2, hq.2⟩ hne
    rw [List.any_append, List.any_cons, List.any_nil, hz, Bool.or_false, Bool.or_false]
end
end Go.Proofs.Ytmlhckcnpfokaaa.Hw
