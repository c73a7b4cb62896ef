/- slices.Sort and slices.Compact at the calendar's list of closed days, by the library's contracts: the ascending list; each run once. -/
import Derived.Test.YtmlhckcnpfokaaaE0
import Derived.Test.YtmlhckcnpfokaaaGshelf
import Derived.Test.YtmlhckcnpfokaaaGcalm
import Derived.Sort.OwnSortedInts
namespace Go.Proofs.Ytmlhckcnpfokaaa.Hw
open Go.RowKit Go.Proofs.YtmlhckcnpfokaaaW.PrintWords Go.Proofs.YtmlhckcnpfokaaaW.PrintLast Go.Proofs.YtmlhckcnpfokaaaW.PrintMore Go.Shelf Go.Sort
set_option linter.unusedVariables false

def slices_Sort_closed.f (l0 : List Int) : Option (List Int) := if l0.length < 4611686018427387904 then some (l0.mergeSort fun x y => decide (x ≤ y)) else none
theorem slices_Sort_closed.calls (P0_ : Nat → Prop) (u9000_ : Value) (l0 : List Int) (r : List Int) (w0 w : World) (hB : Below w0.heap.size w0 w) (ho0 : Kd.R (Kd.int .i64) 3 w w0.heap.size P0_ u9000_ l0) (h : slices_Sort_closed.f l0 = some r) :
    Calls Try.prog 39 #[u9000_] w fun e w' => e = .returned (.tuple #[]) ∧ Kd.R (Kd.int .i64) 3 w' w0.heap.size (fun k_ => (P0_ k_ ∨ w.heap.size ≤ k_)) u9000_ r ∧ Below w0.heap.size w0 w' ∧ Kept w w' (fun k_ => P0_ k_) := by
  unfold slices_Sort_closed.f at h
  have hlen : l0.length < 4611686018427387904 := by
    by_cases hl : l0.length < 4611686018427387904
    · exact hl
    · rw [if_neg hl] at h; cases h
  rw [if_pos hlen] at h
  obtain rfl := Option.some.inj h
  clear h
  have ho := Kd.own_of_R ho0
  by_cases h0 : l0 = []
  · subst h0
    obtain ⟨A, c, rfl⟩ : ∃ A c, u9000_ = .slice A 0 c := by
      rcases ho.2 with ⟨rfl, _⟩ | ⟨g, cap, cur, rfl, _⟩
      · exact ⟨none, 0, rfl⟩
      · exact ⟨_, cap, rfl⟩
    have hc := AnyM.slices_Sort_int_none Try.laysSort A c w
    change Calls Try.prog 39 _ _ _ at hc
    refine hc.mono ?_
    rintro e w' ⟨rfl, hw⟩
    subst hw
    exact ⟨rfl, by rw [List.mergeSort_nil]; exact Kd.R_mono ho0 (fun k hk => .inl hk), hB, Kept.refl _ _⟩
  · have hpos : 0 < l0.length := List.length_pos_iff.2 h0
    rcases ho.2 with ⟨rfl, hz⟩ | ⟨g, cap, cur, rfl, hbase, hb, h1, h2, h3, h4⟩
    · omega
    have h4' : cur.toList.take l0.length = l0.map (Value.int .i64) := by simpa [encs] using h4
    have hc := AnyM.slices_Sort_int Try.laysSort g 0 cap l0 w (holds_of_blockI hb h4') (Array.getElem?_eq_some_iff.1 hb).1 hlen
    change Calls Try.prog 39 _ _ _ at hc
    refine hc.mono ?_
    rintro e w' ⟨rfl, nn, os, rfl⟩
    have hown := ownsRow_sortedI (n := nn) (os := os) (ts := l0.mergeSort fun x y => decide (x ≤ y)) (by simp) hbase hb h1 h2 h3
    have hg := grownBy_sortedI (w := w) (g := g) (n := nn) (os := os) (l0.mergeSort fun x y => decide (x ≤ y)).toArray
    refine ⟨rfl, Kd.R_of_own (by rw [List.length_mergeSort]; exact hown) (fun k hk => .inl (ho0.1 k hk)), hB.grown hg hB.size (fun k hk => by cases hk; exact hbase), Kept.of_grown hg (Kept.refl _ _) (fun k hk => by cases hk; exact .inl (ho0.1 g rfl))⟩

def slices_Compact_closed.f (l0 : List Int) : Option (List Int) := if l0.length < 4611686018427387904 then some (Lib.compact l0) else none
theorem slices_Compact_closed.calls (P0_ : Nat → Prop) (u9000_ : Value) (l0 : List Int) (r : List Int) (w0 w : World) (hB : Below w0.heap.size w0 w) (ho0 : Kd.R (Kd.int .i64) 3 w w0.heap.size P0_ u9000_ l0) (h : slices_Compact_closed.f l0 = some r) :
    Calls Try.prog 40 #[u9000_] w fun e w' => ∃ v0_ : Value, e = .returned (v0_) ∧ Kd.R (Kd.int .i64) 3 w' w0.heap.size (fun k_ => (P0_ k_ ∨ w.heap.size ≤ k_)) v0_ r ∧ Below w0.heap.size w0 w' ∧ Kept w w' (fun k_ => P0_ k_) := by
  unfold slices_Compact_closed.f at h
  have hlen : l0.length < 4611686018427387904 := by
    by_cases hl : l0.length < 4611686018427387904
    · exact hl
    · rw [if_neg hl] at h; cases h
  rw [if_pos hlen] at h
  obtain rfl := Option.some.inj h
  clear h
  have ho := Kd.own_of_R ho0
  by_cases h0 : l0 = []
  · subst h0
    obtain ⟨A, c, rfl⟩ : ∃ A c, u9000_ = .slice A 0 c := by
      rcases ho.2 with ⟨rfl, _⟩ | ⟨g, cap, cur, rfl, _⟩
      · exact ⟨none, 0, rfl⟩
      · exact ⟨_, cap, rfl⟩
    have hc := AnyG.slices_Compact_int_empty Try.laysCompact A c w
    change Calls Try.prog 40 _ _ _ at hc
    refine hc.mono ?_
    rintro e w' ⟨rfl, rfl⟩
    exact ⟨_, rfl, Kd.R_mono ho0 (fun k hk => .inl hk), hB, Kept.refl _ _⟩
  · have hpos : 0 < l0.length := List.length_pos_iff.2 h0
    rcases ho.2 with ⟨rfl, hz⟩ | ⟨g, cap, cur, rfl, hbase, hb, h1, h2, h3, h4⟩
    · omega
    have h4' : cur.toList.take l0.length = l0.map (Value.int .i64) := by simpa [encs] using h4
    have hc := AnyG.slices_Compact_int Try.laysCompact g 0 cap l0 w (holds_of_blockI hb h4') (by omega) h1
    change Calls Try.prog 40 _ _ _ at hc
    refine hc.mono ?_
    rintro e w' ⟨rfl, nn, hw⟩
    have hle := Hm.compact_len l0
    obtain ⟨ts, hts⟩ : ∃ ts, ts = Lib.compact l0 ++ List.replicate (l0.length - (Lib.compact l0).length) 0 := ⟨_, rfl⟩
    have hl : ts.length = l0.length := by rw [hts]; simp; omega
    have htk : ts.take (Lib.compact l0).length = Lib.compact l0 := by rw [hts]; simp
    rw [← hts] at hw
    have hw2 : w' = grow (putRow (Value.int .i64) (Sort.ahead w nn) g 0 ts.toArray) #[] := by rw [grow_empty]; exact hw
    subst hw2
    clear hw hts
    have hown := ownsRow_sortedI (n := nn) (os := #[]) (ts := ts) hl hbase hb h1 h2 h3
    have hg := grownBy_sortedI (w := w) (g := g) (n := nn) (os := #[]) ts.toArray
    have hR : Kd.R (Kd.int .i64) 3 (grow (putRow (Value.int .i64) (Sort.ahead w nn) g 0 ts.toArray) #[]) w0.heap.size (fun k_ => (P0_ k_ ∨ w.heap.size ≤ k_)) (.slice (some ⟨g, 0, none⟩) l0.length cap) ts :=
      Kd.R_of_own (by rw [hl]; exact hown) (fun k hk => .inl (ho0.1 k hk))
    have hT := Kd.R_take hR (m := (Lib.compact l0).length) (by omega)
    rw [htk] at hT
    exact ⟨_, rfl, hT, hB.grown hg hB.size (fun k hk => by cases hk; exact hbase), Kept.of_grown hg (Kept.refl _ _) (fun k hk => by cases hk; exact .inl (ho0.1 g rfl))⟩
end Go.Proofs.Ytmlhckcnpfokaaa.Hw
