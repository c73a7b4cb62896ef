/- Part 5 of 5 of the proof of DocketCheck: texts of this claim put one behind the other by a program; each begins with its own words. -/
import Derived.Deep.RegionHeld3
import Derived.Maps.Own
import Derived.Maps.OwnOps
import Derived.Maps.Views
import Derived.SizedLaws
import Derived.ChangeSlices
import Derived.OpenShut
import Derived.Deep.Slices
import Derived.Deep.Fields
import Derived.ChangeSame
import Derived.ProofKit
import Derived.Test.YtpfiecjacpbhkaaRows
import Derived.WalkKit
import Derived.ShutString
import Derived.ChangeOld
import Derived.Below
import Derived.Carry
import Derived.Test.YtpfiecjacpbhkaaZDocketCheck4
namespace Go.Proofs.Ytpfiecjacpbhkaa.D
open Go.RowKit Go.Proofs.YtpfiecjacpbhkaaW.PrintWords Go.Proofs.YtpfiecjacpbhkaaW.PrintLast Go.Proofs.YtpfiecjacpbhkaaW.PrintMore
set_option linter.unusedVariables false
set_option linter.unusedSimpArgs false
set_option maxHeartbeats 8000000 in
set_option maxRecDepth 100000 in
theorem matterOf_calls (d a p : Int) (v : Value) (A : Option Addr) (c : Nat) (l : List S50) (x : Int) (w : World) (hlen : l.length < 4611686018427387904) (hr : Kd.C k50 w A l.length l) :
    Calls Try.prog 47 #[.agg #[.int .i64 d, .int .i64 a, .int .i64 p, v, .slice A l.length c], .int .i64 x] w fun e w' => e = .returned (.int .i64 (fnd x l 0)) ∧ Below w.heap.size w w' := by
  have hu := Try.underlying30
  have hu2 := Try.underlying50
  have HR := Aside0.mk hr
  obtain ⟨r, hr⟩ : ∃ r, fnd x l 0 = r := ⟨_, rfl⟩
  rw [hr]
  have R0 := Aside0.mk hr
  clear hr
  have B0 : Below w.heap.size w (w.alloc (.cells #[.int .i64 d, .int .i64 a, .int .i64 p, v, .slice A l.length c] 30 (0, 0))) := below_alloc (Below.refl _ _) _
  have K0 := blk_new w (.cells #[.int .i64 d, .int .i64 a, .int .i64 p, v, .slice A l.length c] 30 (0, 0))
  go_enter Try.func47, Try.ntmps47
  go_wp2_with (fail)
  generalize w.alloc (.cells #[.int .i64 d, .int .i64 a, .int .i64 p, v, .slice A l.length c] 30 (0, 0)) = W0 at *
  have HB0 := Aside0.mk B0
  have HK0 := Aside0.mk K0
  clear B0 K0
  go_loopg [5] (l.length) (fun kx s5 wr => ∃ (j : Nat), s5 = .int .i64 j ∧ j ≤ l.length ∧ l.length - j ≤ kx ∧ Aside0 (fnd x (l.drop j) j = r) ∧ Aside0 (Below w.heap.size w wr) ∧ Aside0 (wr.heap[w.heap.size]? = some (.cells #[.int .i64 d, .int .i64 a, .int .i64 p, v, .slice A l.length c] 30 (0, 0))))
  case atStart => exact ⟨0, rfl, Nat.zero_le _, by omega, ⟨by simpa using R0.out⟩, HB0, HK0⟩
  case round =>
    obtain ⟨j, rfl, hj, hk, I, HB, HK⟩ := hrel
    clear HB0 HK0 R0
    have o4 : wr.cell? ⟨w.heap.size, 4, none⟩ = some (.slice A l.length c) := (blk_cell HK.out 4).trans rfl
    by_cases hlt : j < l.length
    · obtain ⟨k1, rfl⟩ : ∃ m, gk = m + 1 := ⟨gk - 1, by omega⟩
      have hd : decide ((j : Int) < (l.length : Int)) = true := decide_eq_true (by omega)
      have p0 : 0 ≤ (j : Int) := Int.natCast_nonneg j
      have q0 : (j : Int) < (l.length : Int) := by omega
      have er : rd_T50 l (j : Int) = l[j] := by
        unfold rd_T50
        rw [Int.toNat_natCast, List.getD_eq_getElem?_getD, List.getElem?_eq_getElem hlt]
        rfl
      have I2 := I.out
      rw [List.drop_eq_getElem_cons hlt, fnd] at I2
      clear I
      obtain ⟨ad, ea, h0, h1, h2, h3, h4⟩ := at_T50 HR.out (j : Int) p0 q0
      cases ea
      rw [er, Int.toNat_natCast] at h0
      replace h0 := (HB.out.cell (World.block_lt_of_cell? w _ h0)).trans h0
      have HW := Aside0.mk (show wrap64 ((j : Int) + 1) = ((j + 1 : Nat) : Int) by unfold wrap64; omega)
      generalize l[j] = y at *
      have p1 := eq_true p0
      have q1 := eq_true q0
      clear p0 q0 h1 h2 h3 h4
      by_cases hy : y.f0 = x
      · rw [if_pos hy] at I2
        have hb0 : (y.f0 == x) = true := by simpa using hy
        subst I2
        clear hy
        go_wp2
        go_ret
        exact ⟨rfl, HB.out⟩
      · rw [if_neg hy] at I2
        have hb0 : (y.f0 == x) = false := by simpa using hy
        have I3 := Aside0.mk I2
        clear I2 hy
        go_wp2
        go_roundg k1
        case measure => omega
        case rel => exact ⟨j + 1, by first | (rw [HW.out]; done) | (simp only [HW.out]; done) | go_num, by omega, by omega, I3, HB, HK⟩
    · have ej : j = l.length := by omega
      subst ej
      have I2 := I.out
      rw [List.drop_length, fnd] at I2
      subst I2
      have hd : decide ((l.length : Int) < (l.length : Int)) = false := decide_eq_false (by omega)
      go_wp2
      go_ret
      exact ⟨rfl, HB.out⟩
set_option maxHeartbeats 8000000 in
set_option maxRecDepth 100000 in
theorem required_calls (kind : Int) (w : World) (hk : 2 ≤ kind ∧ kind ≤ 6) : Calls Try.prog 48 #[.int .i64 kind] w fun e w' => e = .returned (.int .i64 (kind - 1)) ∧ Below w.heap.size w w' := by
  have B0 : Below w.heap.size w (w.alloc (.cells #[.int .i64 0, .int .i64 0, .int .i64 1, .int .i64 2, .int .i64 3, .int .i64 4, .int .i64 5] 3 (0, 0))) := below_alloc (Below.refl _ _) _
  have hu := Try.underlying25
  have hkk : kind = 2 ∨ kind = 3 ∨ kind = 4 ∨ kind = 5 ∨ kind = 6 := by omega
  rcases hkk with rfl | rfl | rfl | rfl | rfl
  all_goals go_enter Try.func48, Try.ntmps48
  all_goals go_wp2
  all_goals go_ret
  all_goals exact ⟨rfl, B0⟩
set_option maxHeartbeats 8000000 in
set_option maxRecDepth 100000 in
theorem opened_err (g : Nat) (d a p : Int) (hv : Value) (A : Option Addr) (c : Nat) (l : List S50) (id : Int) (w : World) (hlen : l.length ≤ c) (hl2 : l.length < 4611686018427387904)
    (hb : w.heap[g]? = some (.cells #[.int .i64 d, .int .i64 a, .int .i64 p, hv, .slice A l.length c] 30 (0, 0))) (hr : Kd.C k50 w A l.length l) (he : (openF l id).2 ≠ 0) :
    Calls Try.prog 46 #[.pointer (some ⟨g, 0, none⟩), .int .i64 id] w fun e w' => e = .returned (.int .i64 (openF l id).2) ∧ Below w.heap.size w w' := by
  have hu := Try.underlying30
  obtain ⟨o0, o1, o2, o3, hc4⟩ := cells5 ⟨hb⟩
  have HR := Aside0.mk hr
  clear hr
  unfold openF at he ⊢
  by_cases h1 : id < 0
  · rw [if_pos h1]
    have hd : decide (id < 0) = true := decide_eq_true h1
    go_enter Try.func46, Try.ntmps46
    go_wp2
    go_ret
    exact ⟨rfl, Below.refl _ _⟩
  · rw [if_neg h1] at he ⊢
    have hd : decide (id < 0) = false := decide_eq_false h1
    have hf := matterOf_calls d a p hv A c l id w hl2 HR.out
    generalize fnd id l 0 = q at *
    by_cases h2 : 0 ≤ q
    · rw [if_pos h2]
      have hd2 : decide (0 ≤ q) = true := decide_eq_true h2
      go_enter Try.func46, Try.ntmps46
      go_wp2_with (go_at_call 47; refine hf.mono ?_; rintro e w' ⟨rfl, hbl⟩)
      go_ret
      exact ⟨rfl, hbl⟩
    · rw [if_neg h2] at he ⊢
      have hd2 : decide (0 ≤ q) = false := decide_eq_false h2
      by_cases h3 : (l.length : Int) ≥ 32
      · rw [if_pos h3]
        have hd3 : decide ((32 : Int) ≤ (l.length : Int)) = true := decide_eq_true h3
        go_enter Try.func46, Try.ntmps46
        go_wp2_with (go_at_call 47; refine hf.mono ?_; rintro e w' ⟨rfl, hbl⟩; have hc5 := pw_cell_below hbl hc4)
        go_ret
        exact ⟨rfl, hbl⟩
      · rw [if_neg h3] at he
        exact absurd rfl he
set_option maxHeartbeats 8000000 in
set_option maxRecDepth 100000 in
theorem opened_ok (g : Nat) (d a p : Int) (hv u : Value) (l : List S50) (id : Int) (w0 w : World) (hB : Below w0.heap.size w0 w) (hg : w0.heap.size ≤ g)
    (hb : w.heap[g]? = some (.cells #[.int .i64 d, .int .i64 a, .int .i64 p, hv, u] 30 (0, 0))) (ho : Kd.R k50 50 w w0.heap.size (fun _ => True) u l) (he : (openF l id).2 = 0) :
    Calls Try.prog 46 #[.pointer (some ⟨g, 0, none⟩), .int .i64 id] w fun e w' => ∃ u', e = .returned (.int .i64 0) ∧ w'.heap[g]? = some (.cells #[.int .i64 d, .int .i64 a, .int .i64 p, hv, u'] 30 (0, 0)) ∧
      Kd.R k50 50 w' w0.heap.size (fun _ => True) u' (openF l id).1 ∧ Below w0.heap.size w0 w' ∧ (∀ k, k < w.heap.size → k ≠ g → some k ≠ u.ownBlock → w'.heap[k]? = w.heap[k]?) := by
  have hu := Try.underlying30
  have hu2 := Try.underlying50
  have hu3 := Try.underlying28
  obtain ⟨A, c, rfl⟩ := Kd.R_slice ho
  have hC := (Kd.R_reads' ho).2
  obtain ⟨o0, o1, o2, o3, hc4⟩ := cells5 ⟨hb⟩
  unfold openF at he ⊢
  by_cases h1 : id < 0
  · rw [if_pos h1] at he; cases he
  rw [if_neg h1] at he ⊢
  by_cases h2 : 0 ≤ fnd id l 0
  · rw [if_pos h2] at he; cases he
  rw [if_neg h2] at he ⊢
  by_cases h3 : (l.length : Int) ≥ 32
  · rw [if_pos h3] at he; cases he
  rw [if_neg h3] at he ⊢
  clear he
  have hf := matterOf_calls d a p hv A c l id w (by omega) hC.2
  have hd : decide (id < 0) = false := decide_eq_false h1
  have hd2 : decide (0 ≤ fnd id l 0) = false := decide_eq_false h2
  have hd3 : decide ((32 : Int) ≤ (l.length : Int)) = false := decide_eq_false h3
  generalize fnd id l 0 = q at *
  have HO := Aside0.mk ho
  have HL : l.length < 32 := by omega
  have BK := Aside0.mk hb
  have HBB := Aside0.mk hB
  clear ho hC hb hB h1 h2 h3
  go_enter Try.func46, Try.ntmps46
  go_wp2_with (first | (go_at_call 47; refine hf.mono ?_; rintro e w1 ⟨rfl, hbl⟩; have hc5 := pw_cell_below hbl hc4; have HO1 := Aside0.mk (Kd.R_below HO.out hbl); have BK1 := Aside0.mk (blk_below BK.out hbl); have HB1 := Aside0.mk (below_then HBB.out HBB.out.size hbl)) | ((with_reducible refine gate_builtin (b := .append) (xs := #[.tmp 23, .tmp 26]) rfl ?_); at_builtin; refine Kd.R_append k50 (w0 := w0) w0.heap.size rfl (.tmp 23) (.tmp 26) 28 50 (.agg #[(.int .i64 0), (.int .i64 0), (.int .i64 0), (.int .i64 0), (.bool false)]) 40 rfl Try.underlying28 info50 rfl (by decide) (by omega) _ l (⟨id, 1, 0, 0, false⟩ : S50) [.int .i64 id, .int .i64 1, .int .i64 0, .int .i64 0, .bool false] (fun _ => True) (fun _ => False) rfl rfl ?aP (fun _ hk => hk.elim) ?aF ?aO ?aB ?aS ?aL ?_; (case aP => exact k50_mkM _ _ _ (⟨id, 1, 0, 0, false⟩ : S50)); (case aB => exact HB1.out); (case aF => exact (fun _ _ => trivial)); (case aO => exact HO1.out); (case aS => exact HB1.out.size); (case aL => omega); intro v2 w2 ho2 hb2 hgr hat; obtain ⟨A2, c2, rfl⟩ := Kd.R_slice ho2; have hne : some g ≠ (Value.slice A l.length c).ownBlock := Kd.R_ne HO1.out BK1.out (by decide); have BK2 := blk_grown BK1.out hgr hne; have hz4 := (blk_cell BK2 4).trans rfl; have hy4 := blk_frozen BK2 4))
  go_ret
  simp only [List.length_append, List.length_cons, List.length_nil, Nat.zero_add] at ho2
  refine ⟨_, rfl, blk_put BK2 4 _ rfl, Kd.R_mono (Kd.R_far (p := ⟨g, 4, none⟩) (Kd.R_types ho2 BK2 (by decide)) (fun _ hk => hk.2) _) (fun _ _ => trivial), hb2.setCell hg _, fun k hk hkg hku => ?_⟩
  rw [Below.heap_setCell w2 ⟨g, 4, none⟩ _ k hkg, hgr.block k (Nat.lt_of_lt_of_le hk hbl.size) hku]
  exact hbl.block k hk
def RAddAt (w : World) (day n : Int) (v : Value) (ad : Int × Int) : Prop :=
  ∀ w1, Below w.heap.size w w1 → Calls Try.prog 61 #[.int .i64 day, .int .i64 n, v] w1 fun e w2 => e = .returned (.tuple #[.int .i64 ad.1, .int .i64 ad.2]) ∧ Below w1.heap.size w1 w2
theorem option_some (o : Int) (w : World) : Calls Try.prog 59 #[.int .i64 o] w fun e w' => e = .returned (.bool (decide (0 ≤ o ∧ o < 4))) ∧ Below w.heap.size w w' := by
  refine (insolvencyref33_option.calls o (decide (0 ≤ o ∧ o < 4)) w ?_).mono (fun e w' ⟨h1, h2⟩ => ⟨h1, h2.below⟩)
  unfold insolvencyref33_option.f
  by_cases h : o ≥ 0
  · rw [if_pos h]
    by_cases h2 : o < 4
    · simp [h2, h]
    · simp [h2]
  · rw [if_neg h]
    simp; omega
set_option maxHeartbeats 8000000 in
set_option maxRecDepth 100000 in
theorem rchange_opt (b o gO : Nat) (kind day id opt : Int) (w : World) (hk : kind = 4 ∨ kind = 6) (ho : ¬ (0 ≤ opt ∧ opt < 4)) :
    Calls Try.prog 49 #[.pointer (some ⟨gO, 0, none⟩), .pointer (some ⟨b, o, none⟩), .agg #[.int .i64 kind, .int .i64 day, .int .i64 id, .int .i64 opt]] w fun e w' => e = .returned (.int .i64 41) ∧ Below w.heap.size w w' := by
  have hu := Try.underlying47
  have B1 : Below w.heap.size w (w.alloc (.cells #[.int .i64 kind, .int .i64 day, .int .i64 id, .int .i64 opt] 47 (0, 0))) := below_alloc (Below.refl _ _) _
  have hop := fun w' => option_some opt w'
  rw [decide_eq_false ho] at hop
  rcases hk with rfl | rfl
  all_goals go_enter Try.func49, Try.ntmps49
  all_goals go_wp2_with (go_at_call 59; refine (hop _).mono ?_; rintro e w2 ⟨rfl, hb⟩)
  all_goals go_ret
  all_goals exact ⟨rfl, below_step B1 hb⟩
set_option maxHeartbeats 8000000 in
set_option maxRecDepth 100000 in
theorem rchange_add (b o gO : Nat) (kind day id opt d ans app : Int) (v u : Value) (ad : Int × Int) (w : World) (hk : kind = 2 ∨ kind = 4 ∧ 0 ≤ opt ∧ opt < 4)
    (hO : w.heap[gO]? = some (.cells #[.int .i64 d, .int .i64 ans, .int .i64 app, v, u] 30 (0, 0))) (ha : RAddAt w day (if kind = 2 then ans else app) v ad) (he : ad.2 ≠ 0) :
    Calls Try.prog 49 #[.pointer (some ⟨gO, 0, none⟩), .pointer (some ⟨b, o, none⟩), .agg #[.int .i64 kind, .int .i64 day, .int .i64 id, .int .i64 opt]] w fun e w' => e = .returned (.int .i64 ad.2) ∧ Below w.heap.size w w' := by
  have hu := Try.underlying47
  have hu2 := Try.underlying27
  have hu3 := Try.underlying30
  have B1 : Below w.heap.size w (w.alloc (.cells #[.int .i64 kind, .int .i64 day, .int .i64 id, .int .i64 opt] 47 (0, 0))) := below_alloc (Below.refl _ _) _
  have K1 := blk_new w (.cells #[.int .i64 kind, .int .i64 day, .int .i64 id, .int .i64 opt] 47 (0, 0))
  have he2 : (ad.2 != 0) = true := by simpa using he
  obtain ⟨a1, a2⟩ := ad
  have KO := blk_below hO B1
  obtain ⟨f0, f1, f2, f3⟩ := cells4 ⟨K1⟩
  obtain ⟨o0, o1, o2, o3, o4⟩ := cells5 ⟨KO⟩
  rcases hk with rfl | ⟨rfl, hk0, hk1⟩
  · rw [if_pos rfl] at ha
    go_enter Try.func49, Try.ntmps49
    go_upto_region 9 with (fail)
    generalize w.alloc (.cells #[.int .i64 2, .int .i64 day, .int .i64 id, .int .i64 opt] 47 (0, 0)) = W1 at *
    have hA := ha W1.drew (below_drew1 B1)
    have B2 := below_drew1 B1
    clear ha he hO
    go_region_held3 (fun w_ => w_.cell? ⟨w.heap.size, 1, none⟩ = some (.int .i64 day) ∧ w_.cell? ⟨gO, 3, none⟩ = some v) (first | exact ⟨f1, o3⟩ | exact ⟨f1', o3'⟩ | go_keep) (first | (go_at_call 61; refine hA.mono ?_; rintro e w2 ⟨rfl, hb⟩; have f1' := pw_cell_below hb (show W1.drew.cell? _ = _ from f1); have o3' := pw_cell_below hb (show W1.drew.cell? _ = _ from o3)))
    go_wp2
    go_ret
    exact ⟨rfl, below_step B2 hb⟩
  · rw [if_neg (by decide)] at ha
    have hop := option_some opt (w.alloc (.cells #[.int .i64 4, .int .i64 day, .int .i64 id, .int .i64 opt] 47 (0, 0)))
    rw [decide_eq_true (⟨hk0, hk1⟩ : 0 ≤ opt ∧ opt < 4)] at hop
    go_enter Try.func49, Try.ntmps49
    go_upto_region 9 with (go_at_call 59; refine hop.mono ?_; rintro e w2 ⟨rfl, hb⟩; have f0' := pw_cell_below hb f0; have f1' := pw_cell_below hb f1; have f3' := pw_cell_below hb f3; have o1' := pw_cell_below hb o1; have o2' := pw_cell_below hb o2; have o3' := pw_cell_below hb o3)
    have B2 := below_step B1 hb
    have hA := ha w2.drew (below_drew1 B2)
    have B3 := below_drew1 B2
    clear ha he hO hop
    go_region_held3 (fun w_ => w_.cell? ⟨w.heap.size, 1, none⟩ = some (.int .i64 day) ∧ w_.cell? ⟨gO, 3, none⟩ = some v) (first | exact ⟨f1', o3'⟩ | exact ⟨f1'', o3''⟩ | go_keep) (first | (go_at_call 61; refine hA.mono ?_; rintro e w3 ⟨rfl, hb3⟩; have f1'' := pw_cell_below hb3 (show w2.drew.cell? _ = _ from f1'); have o3'' := pw_cell_below hb3 (show w2.drew.cell? _ = _ from o3')))
    go_wp2
    go_ret
    exact ⟨rfl, below_step B3 hb3⟩
def rchgM (m : S50) (kind due opt : Int) : S50 := ⟨m.f0, kind, if kind = 6 then m.f2 else due, if kind = 4 ∨ kind = 6 then opt else m.f3, m.f4⟩
def RPost (w0 w : World) (g cap : Nat) (ms ms' : List S50) (ok : Nat → Prop) (w' : World) : Prop :=
  Kd.R k50 50 w' w0.heap.size ok (.slice (some ⟨g, 0, none⟩) ms.length cap) ms' ∧ Below w0.heap.size w0 w' ∧ ∀ k, k < w.heap.size → k ≠ g → w'.heap[k]? = w.heap[k]?
section
variable {g cap : Nat} {ok : Nat → Prop} {ms : List S50} {w0 w V : World}
theorem rfin (hB : Below w0.heap.size w0 w) (hg0 : w0.heap.size ≤ g) (hBV : Below w.heap.size w V) (hr : Kd.R k50 50 V w0.heap.size ok (.slice (some ⟨g, 0, none⟩) ms.length cap) ms) (i : Int) (h0 : 0 ≤ i) (h1 : i < ms.length) (m : S50) (hm : rd_T50 ms i = m) (due opt : Int) :
    RPost w0 w g cap ms (ms.set i.toNat (rchgM m 2 due opt)) ok ((V.setCell ⟨g, i.toNat * 5 + 2, none⟩ (.int .i64 due)).setCell ⟨g, i.toNat * 5 + 1, none⟩ (.int .i64 2)) ∧
    RPost w0 w g cap ms (ms.set i.toNat (rchgM m 4 due opt)) ok ((((V.setCell ⟨g, i.toNat * 5 + 2, none⟩ (.int .i64 due)).setCell ⟨g, i.toNat * 5 + 1, none⟩ (.int .i64 2)).setCell ⟨g, i.toNat * 5 + 1, none⟩ (.int .i64 4)).setCell ⟨g, i.toNat * 5 + 3, none⟩ (.int .i64 opt)) := by
  have hV : Below w0.heap.size w0 V := below_then hB hB.size hBV
  have a1 := put2 hr i h0 h1 m hm due
  have a2 := put1 a1.1 i h0 h1 _ (rd_set ms i _ h0 h1) 2
  rw [List.set_set] at a2
  have a3 := put1 a2.1 i h0 h1 _ (rd_set ms i _ h0 h1) 4
  rw [List.set_set] at a3
  have a4 := put3 a3.1 i h0 h1 _ (rd_set ms i _ h0 h1) opt
  rw [List.set_set] at a4
  refine ⟨⟨a2.1, (hV.setCell hg0 _).setCell hg0 _, fun k hk hn => ?_⟩, ⟨a4.1, (((hV.setCell hg0 _).setCell hg0 _).setCell hg0 _).setCell hg0 _, fun k hk hn => ?_⟩⟩
  · rw [Below.heap_setCell _ _ _ k hn, Below.heap_setCell _ _ _ k hn]
    exact hBV.block k hk
  · rw [Below.heap_setCell _ _ _ k hn, Below.heap_setCell _ _ _ k hn, Below.heap_setCell _ _ _ k hn, Below.heap_setCell _ _ _ k hn]
    exact hBV.block k hk
theorem rfin2 (hB : Below w0.heap.size w0 w) (hg0 : w0.heap.size ≤ g) (hBV : Below w.heap.size w V) (hr : Kd.R k50 50 V w0.heap.size ok (.slice (some ⟨g, 0, none⟩) ms.length cap) ms) (i : Int) (h0 : 0 ≤ i) (h1 : i < ms.length) (m : S50) (hm : rd_T50 ms i = m) (opt : Int) :
    RPost w0 w g cap ms (ms.set i.toNat (rchgM m 3 0 opt)) ok ((V.setCell ⟨g, i.toNat * 5 + 1, none⟩ (.int .i64 3)).setCell ⟨g, i.toNat * 5 + 2, none⟩ (.int .i64 0)) ∧
    RPost w0 w g cap ms (ms.set i.toNat (rchgM m 5 0 opt)) ok ((V.setCell ⟨g, i.toNat * 5 + 1, none⟩ (.int .i64 5)).setCell ⟨g, i.toNat * 5 + 2, none⟩ (.int .i64 0)) ∧
    RPost w0 w g cap ms (ms.set i.toNat (rchgM m 6 0 opt)) ok ((V.setCell ⟨g, i.toNat * 5 + 1, none⟩ (.int .i64 6)).setCell ⟨g, i.toNat * 5 + 3, none⟩ (.int .i64 opt)) := by
  have hV : Below w0.heap.size w0 V := below_then hB hB.size hBV
  have a1 := fun s => put1 hr i h0 h1 m hm s
  have a2 := fun s => put2 (a1 s).1 i h0 h1 _ (rd_set ms i _ h0 h1) 0
  have a3 := put3 (a1 6).1 i h0 h1 _ (rd_set ms i _ h0 h1) opt
  simp only [List.set_set] at a2 a3
  refine ⟨⟨(a2 3).1, (hV.setCell hg0 _).setCell hg0 _, fun k hk hn => ?_⟩, ⟨(a2 5).1, (hV.setCell hg0 _).setCell hg0 _, fun k hk hn => ?_⟩, ⟨a3.1, (hV.setCell hg0 _).setCell hg0 _, fun k hk hn => ?_⟩⟩
  all_goals rw [Below.heap_setCell _ _ _ k hn, Below.heap_setCell _ _ _ k hn]
  all_goals exact hBV.block k hk
end
set_option maxHeartbeats 8000000 in
set_option maxRecDepth 100000 in
theorem rchange_ok (g gO : Nat) (i : Int) (cap : Nat) (ms : List S50) (ok : Nat → Prop) (kind day id opt d ans app : Int) (v u : Value) (ad : Int × Int) (w0 w : World) (hB : Below w0.heap.size w0 w) (h0 : 0 ≤ i) (h1 : i < ms.length)
    (hk : kind = 2 ∨ kind = 3 ∨ kind = 4 ∧ 0 ≤ opt ∧ opt < 4 ∨ kind = 5 ∨ kind = 6 ∧ 0 ≤ opt ∧ opt < 4)
    (hO : w.heap[gO]? = some (.cells #[.int .i64 d, .int .i64 ans, .int .i64 app, v, u] 30 (0, 0)))
    (hr : Kd.R k50 50 w w0.heap.size ok (.slice (some ⟨g, 0, none⟩) ms.length cap) ms)
    (ha : if kind = 2 ∨ kind = 4 then RAddAt w day (if kind = 2 then ans else app) v ad else ad = (0, 0)) (he : ad.2 = 0) :
    Calls Try.prog 49 #[.pointer (some ⟨gO, 0, none⟩), .pointer (some ⟨g, i.toNat * 5, none⟩), .agg #[.int .i64 kind, .int .i64 day, .int .i64 id, .int .i64 opt]] w fun e w' => e = .returned (.int .i64 0) ∧ RPost w0 w g cap ms (ms.set i.toNat (rchgM (rd_T50 ms i) kind ad.1 opt)) ok w' := by
  have hu := Try.underlying47
  have hu2 := Try.underlying27
  have hu3 := Try.underlying30
  have hu4 := Try.underlying50
  have hg0 : w0.heap.size ≤ g := by
    rcases Kd.R_base2 hr with h | ⟨k, h, hk⟩
    · simp [Value.ownBlock] at h
    · have : g = k := by simpa [Value.ownBlock] using h
      omega
  generalize hm : rd_T50 ms i = m at *
  have B1 : Below w.heap.size w (w.alloc (.cells #[.int .i64 kind, .int .i64 day, .int .i64 id, .int .i64 opt] 47 (0, 0))) := below_alloc (Below.refl _ _) _
  have K1 := blk_new w (.cells #[.int .i64 kind, .int .i64 day, .int .i64 id, .int .i64 opt] 47 (0, 0))
  have KO := blk_below hO B1
  have R1 := Kd.R_below hr B1
  have hgl : g < w.heap.size := World.block_lt_of_cell? w _ (elm hr i h0 h1 m hm).1
  have ng : g ≠ w.heap.size := by omega
  obtain ⟨f0, f1, f2, f3⟩ := cells4 ⟨K1⟩
  obtain ⟨o0, o1, o2, o3, o4⟩ := cells5 ⟨KO⟩
  obtain ⟨a1, a2⟩ := ad
  obtain rfl : a2 = 0 := he
  rcases hk with rfl | rfl | ⟨rfl, hk0, hk1⟩ | rfl | ⟨rfl, hk0, hk1⟩
  · rw [if_pos (.inl rfl), if_pos rfl] at ha
    go_enter Try.func49, Try.ntmps49
    go_upto_region 9 with (fail)
    generalize w.alloc (.cells #[.int .i64 2, .int .i64 day, .int .i64 id, .int .i64 opt] 47 (0, 0)) = W1 at *
    have hA := ha W1.drew (below_drew1 B1)
    have B2 := below_drew1 B1
    have R2 := Kd.R_drew R1
    clear ha hO
    go_region_held3 (fun w_ => w_.cell? ⟨w.heap.size, 0, none⟩ = some (.int .i64 2) ∧ w_.cell? ⟨w.heap.size, 1, none⟩ = some (.int .i64 day) ∧ w_.cell? ⟨gO, 3, none⟩ = some v) (first | exact ⟨f0, f1, o3⟩ | exact ⟨f0', f1', o3'⟩ | go_keep) (first | (go_at_call 61; refine hA.mono ?_; rintro e w2 ⟨rfl, hb⟩; have f0' := pw_cell_below hb (show W1.drew.cell? _ = _ from f0); have f1' := pw_cell_below hb (show W1.drew.cell? _ = _ from f1); have o3' := pw_cell_below hb (show W1.drew.cell? _ = _ from o3)))
    obtain ⟨e1, e2, e3, e4, e5, e6⟩ := elm (Kd.R_below R2 hb) i h0 h1 m hm
    go_wp2
    go_ret
    exact ⟨rfl, (rfin hB hg0 (below_step B2 hb) (Kd.R_below R2 hb) i h0 h1 m hm a1 opt).1⟩
  · rw [if_neg (by decide)] at ha
    obtain ⟨rfl, -⟩ := Prod.mk.inj ha
    obtain ⟨e1, e2, e3, e4, e5, e6⟩ := elm R1 i h0 h1 m hm
    go_enter Try.func49, Try.ntmps49
    go_upto_region 18 with (fail)
    generalize w.alloc (.cells #[.int .i64 3, .int .i64 day, .int .i64 id, .int .i64 opt] 47 (0, 0)) = W1 at *
    go_wp2
    go_ret
    exact ⟨rfl, (rfin2 hB hg0 B1 R1 i h0 h1 m hm opt).1⟩
  · rw [if_pos (.inr rfl), if_neg (by decide)] at ha
    have hop := option_some opt (w.alloc (.cells #[.int .i64 4, .int .i64 day, .int .i64 id, .int .i64 opt] 47 (0, 0)))
    rw [decide_eq_true (⟨hk0, hk1⟩ : 0 ≤ opt ∧ opt < 4)] at hop
    go_enter Try.func49, Try.ntmps49
    go_upto_region 9 with (go_at_call 59; refine hop.mono ?_; rintro e w2 ⟨rfl, hb⟩; have f0' := pw_cell_below hb f0; have f1' := pw_cell_below hb f1; have f3' := pw_cell_below hb f3; have o1' := pw_cell_below hb o1; have o2' := pw_cell_below hb o2; have o3' := pw_cell_below hb o3)
    have B2 := below_step B1 hb
    have hA := ha w2.drew (below_drew1 B2)
    have B3 := below_drew1 B2
    have R2 := Kd.R_drew (Kd.R_below R1 hb)
    clear ha hO hop
    go_region_held3 (fun w_ => w_.cell? ⟨w.heap.size, 0, none⟩ = some (.int .i64 4) ∧ w_.cell? ⟨w.heap.size, 1, none⟩ = some (.int .i64 day) ∧ w_.cell? ⟨w.heap.size, 3, none⟩ = some (.int .i64 opt) ∧ w_.cell? ⟨gO, 3, none⟩ = some v) (first | exact ⟨f0', f1', f3', o3'⟩ | exact ⟨f0'', f1'', f3'', o3''⟩ | go_keep) (first | (go_at_call 61; refine hA.mono ?_; rintro e w3 ⟨rfl, hb3⟩; have f0'' := pw_cell_below hb3 (show w2.drew.cell? _ = _ from f0'); have f1'' := pw_cell_below hb3 (show w2.drew.cell? _ = _ from f1'); have f3'' := pw_cell_below hb3 (show w2.drew.cell? _ = _ from f3'); have o3'' := pw_cell_below hb3 (show w2.drew.cell? _ = _ from o3')))
    obtain ⟨e1, e2, e3, e4, e5, e6⟩ := elm (Kd.R_below R2 hb3) i h0 h1 m hm
    go_wp2
    go_ret
    exact ⟨rfl, (rfin hB hg0 (below_step B3 hb3) (Kd.R_below R2 hb3) i h0 h1 m hm a1 opt).2⟩
  · rw [if_neg (by decide)] at ha
    obtain ⟨rfl, -⟩ := Prod.mk.inj ha
    obtain ⟨e1, e2, e3, e4, e5, e6⟩ := elm R1 i h0 h1 m hm
    go_enter Try.func49, Try.ntmps49
    go_upto_region 21 with (fail)
    generalize w.alloc (.cells #[.int .i64 5, .int .i64 day, .int .i64 id, .int .i64 opt] 47 (0, 0)) = W1 at *
    go_wp2
    go_ret
    exact ⟨rfl, (rfin2 hB hg0 B1 R1 i h0 h1 m hm opt).2.1⟩
  · rw [if_neg (by decide)] at ha
    obtain ⟨rfl, -⟩ := Prod.mk.inj ha
    have hop := option_some opt (w.alloc (.cells #[.int .i64 6, .int .i64 day, .int .i64 id, .int .i64 opt] 47 (0, 0)))
    rw [decide_eq_true (⟨hk0, hk1⟩ : 0 ≤ opt ∧ opt < 4)] at hop
    go_enter Try.func49, Try.ntmps49
    go_wp2_with (go_at_call 59; refine hop.mono ?_; rintro e w2 ⟨rfl, hb⟩; have R2 := Kd.R_below R1 hb; obtain ⟨e1, e2, e3, e4, e5, e6⟩ := elm R2 i h0 h1 m hm; have f0' := pw_cell_below hb f0; have f3' := pw_cell_below hb f3)
    go_ret
    exact ⟨rfl, (rfin2 hB hg0 (below_step B1 hb) R2 i h0 h1 m hm opt).2.2⟩
end Go.Proofs.Ytpfiecjacpbhkaa.D

namespace Go.Proofs.Ytpfiecjacpbhkaa.D
open Go.RowKit Go.Proofs.YtpfiecjacpbhkaaW.PrintWords Go.Proofs.YtpfiecjacpbhkaaW.PrintLast Go.Proofs.YtpfiecjacpbhkaaW.PrintMore
set_option linter.unusedVariables false
set_option linter.unusedSimpArgs false
def ref_File.tail (k : Nat) (day ans app : Int) (hs : List Int) (ms : List S50) (rl : List S52) (kind at_ id opt : Int) : Option Dk :=
  if kind < 1 ∨ 6 < kind then some (dkErr 1)
  else if ms.length < 4611686018427387904 then
    if kind = 1 then if (openF ms id).2 = 0 then some (day, ans, app, hs, (openF ms id).1, rl, 0) else some (dkErr (openF ms id).2)
    else if fnd id ms 0 < 0 then some (dkErr 11)
    else if (rd_T50 ms (fnd id ms 0)).f1 ≠ kind - 1 then some (dkErr 13)
    else if (kind = 4 ∨ kind = 6) ∧ (opt < 0 ∨ 4 ≤ opt) then some (dkErr 41)
    else (if kind = 2 ∨ kind = 4 then F.insolvencyref1_AddDays.f k at_ (if kind = 2 then ans else app) hs else some (0, 0)).bind fun ad =>
      if ad.2 ≠ 0 then some (dkErr ad.2)
      else if kind = 6 then if rl.length < 5864062014805 then some (day, ans, app, hs, ms.set (fnd id ms 0).toNat (rchgM (rd_T50 ms (fnd id ms 0)) kind ad.1 opt), rl ++ [⟨id, at_, opt⟩], 0) else none
      else some (day, ans, app, hs, ms.set (fnd id ms 0).toNat (rchgM (rd_T50 ms (fnd id ms 0)) kind ad.1 opt), rl, 0)
  else none
def ref_File.f (k : Nat) (a0 a1 a2 : Int) (l3 : List Int) (l4 : List S50) (kind at_ id opt : Int) : Option Dk :=
  (insolvencyref33_Advance.f k a0 a1 a2 l3 l4 at_).bind fun r => if r.2.2.2.2.2.2 = 0 then ref_File.tail k r.1 r.2.1 r.2.2.1 r.2.2.2.1 r.2.2.2.2.1 r.2.2.2.2.2.1 kind at_ id opt else some (dkErr r.2.2.2.2.2.2)
theorem ref_File.mono : ∀ a0 a1 a2 a3 a4 a5 a6 a7 a8 k, LeO (ref_File.f k a0 a1 a2 a3 a4 a5 a6 a7 a8) (ref_File.f (k + 1) a0 a1 a2 a3 a4 a5 a6 a7 a8) := by
  intro a0 a1 a2 a3 a4 a5 a6 a7 a8 k
  unfold ref_File.f ref_File.tail
  repeat' first
  | (with_reducible exact insolvencyref33_Advance.mono _ _ _ _ _ _ _)
  | (with_reducible exact F.insolvencyref1_AddDays.mono _ _ _ _)
  | (with_reducible exact LeO.refl _)
  | (with_reducible exact LeO.none _)
  | (with_reducible refine LeO.ite ?_ ?_)
  | (with_reducible refine LeO.bind ?_ (fun _ => ?_))
set_option maxHeartbeats 16000000 in
set_option maxRecDepth 100000 in
theorem rfile_walk (k : Nat) (d a p : Int) (v u : Value) (kind day id opt : Int) (r : Dk) (r' : Dk) (w : World)
    (hA : Calls Try.prog 27 #[.agg #[.int .i64 d, .int .i64 a, .int .i64 p, v, u], .int .i64 day] (filWorld w d a p v u kind day id opt) (FileEnd (filWorld w d a p v u kind day id opt) r))
    (h : (if r.2.2.2.2.2.2 = 0 then ref_File.tail k r.1 r.2.1 r.2.2.1 r.2.2.2.1 r.2.2.2.2.1 r.2.2.2.2.2.1 kind day id opt else some (dkErr r.2.2.2.2.2.2)) = some r') :
    Calls Try.prog 28 #[.agg #[.int .i64 d, .int .i64 a, .int .i64 p, v, u], .agg #[.int .i64 kind, .int .i64 day, .int .i64 id, .int .i64 opt]] w (FileEnd w r') := by
  have hu := Try.underlying47
  have hu2 := Try.underlying27
  have hu3 := Try.underlying30
  have hu4 := Try.underlying28
  have B0 := fil_below w d a p v u kind day id opt
  have K2 := fil_res w d a p v u kind day id opt
  have K1 := fil_file w d a p v u kind day id opt
  obtain ⟨r1, r2, r3, hs, ms, rl, r7⟩ := r
  go_enter Try.func28, Try.ntmps28
  go_upto_region 2 with (go_at_call 27; change Calls _ _ _ (filWorld w d a p v u kind day id opt) _; refine hA.mono ?_; rintro e w1 ⟨v3, v4, v5, rfl, h3, h4, h5, hb⟩; have K3 := blk_below K2 hb; have K4 := blk_below K1 hb; obtain ⟨A3, c3, rfl⟩ := Kd.R_slice h3; obtain ⟨A4, c4, rfl⟩ := Kd.R_slice h4; obtain ⟨A5, c5, rfl⟩ := Kd.R_slice h5)
  change Code.wp _ _ _ _ (w1.alloc (.cells #[.int .i64 r1, .int .i64 r2, .int .i64 r3, .slice A3 hs.length c3, .slice A4 ms.length c4] 30 (0, 0)))
  have KO := blk_new w1 (.cells #[.int .i64 r1, .int .i64 r2, .int .i64 r3, .slice A3 hs.length c3, .slice A4 ms.length c4] 30 (0, 0))
  have KZ := blk_alloc K3 (.cells #[.int .i64 r1, .int .i64 r2, .int .i64 r3, .slice A3 hs.length c3, .slice A4 ms.length c4] 30 (0, 0))
  have KF := blk_alloc K4 (.cells #[.int .i64 r1, .int .i64 r2, .int .i64 r3, .slice A3 hs.length c3, .slice A4 ms.length c4] 30 (0, 0))
  have R3 := Kd.R_alloc (Kd.R_lower h3 B0.size) (.cells #[.int .i64 r1, .int .i64 r2, .int .i64 r3, .slice A3 hs.length c3, .slice A4 ms.length c4] 30 (0, 0))
  have R4 := Kd.R_alloc (Kd.R_lower h4 B0.size) (.cells #[.int .i64 r1, .int .i64 r2, .int .i64 r3, .slice A3 hs.length c3, .slice A4 ms.length c4] 30 (0, 0))
  have R5 := Kd.R_alloc (Kd.R_lower h5 B0.size) (.cells #[.int .i64 r1, .int .i64 r2, .int .i64 r3, .slice A3 hs.length c3, .slice A4 ms.length c4] 30 (0, 0))
  have BW := below_alloc (below_step B0 hb) (.cells #[.int .i64 r1, .int .i64 r2, .int .i64 r3, .slice A3 hs.length c3, .slice A4 ms.length c4] 30 (0, 0))
  have n1 : w1.heap.size ≠ w.heap.size + 1 + 1 := Nat.ne_of_gt (blk_lt K3)
  have n2 : w1.heap.size ≠ w.heap.size + 1 := Nat.ne_of_gt (blk_lt K4)
  have n3 : w.heap.size + 1 ≠ w.heap.size + 1 + 1 := by omega
  have n4 : w.heap.size ≤ w.heap.size + 1 + 1 := by omega
  have n5 : w.heap.size ≤ w1.heap.size := Nat.le_trans n4 (Nat.le_of_lt (blk_lt K3))
  generalize w1.alloc (.cells #[.int .i64 r1, .int .i64 r2, .int .i64 r3, .slice A3 hs.length c3, .slice A4 ms.length c4] 30 (0, 0)) = W2 at *
  generalize w1.heap.size = gO at *
  generalize w.heap.size + 1 + 1 = gZ at *
  generalize w.heap.size + 1 = gB at *
  clear K1 K2 K3 K4 h3 h4 h5 hb hA B0 w1
  obtain ⟨z0, z1, z2, z3, z4⟩ := cells5 ⟨KZ⟩
  obtain ⟨x0, x1, x2, x3, x4⟩ := frz5 ⟨KZ⟩
  by_cases he : r7 = 0
  · rw [if_pos he] at h
    subst he
    obtain ⟨f0, f1, f2, f3⟩ := cells4 ⟨KF⟩
    obtain ⟨o0, o1, o2, o3, o4⟩ := cells5 ⟨KO⟩
    unfold ref_File.tail at h
    by_cases hk : kind < 1 ∨ 6 < kind
    · rw [if_pos hk] at h
      obtain rfl := Option.some.inj h
      clear h
      by_cases h1 : kind < 1
      · have e1 : decide (kind < 1) = true := decide_eq_true h1
        clear hk h1
        go_wp2
        refine bodyPost_ret (results_ctt rfl _ _ gZ 30 _ (0, 0) _ rfl (five_blk KZ _ _ _ _ _) Try.underlying30 rfl (by kernel_rfl)) rfl ?_
        exact end_err _ _ _ _ BW n4
      · have e1 : decide (kind < 1) = false := decide_eq_false h1
        have e2 : decide (6 < kind) = true := decide_eq_true (by omega)
        clear hk h1
        go_wp2
        refine bodyPost_ret (results_ctt rfl _ _ gZ 30 _ (0, 0) _ rfl (five_blk KZ _ _ _ _ _) Try.underlying30 rfl (by kernel_rfl)) rfl ?_
        exact end_err _ _ _ _ BW n4
    rw [if_neg hk] at h
    have e1 : decide (kind < 1) = false := decide_eq_false (by omega)
    have e2 : decide (6 < kind) = false := decide_eq_false (by omega)
    have hC := (Kd.R_reads' R4).2
    by_cases hl : ms.length < 4611686018427387904
    case neg => rw [if_neg hl] at h; cases h
    rw [if_pos hl] at h
    by_cases hk1 : kind = 1
    · rw [if_pos hk1] at h
      subst hk1
      by_cases ho : (openF ms id).2 = 0
      · rw [if_pos ho] at h
        obtain rfl := Option.some.inj h
        have hop := opened_ok gO r1 r2 r3 (.slice A3 hs.length c3) (.slice A4 ms.length c4) ms id w W2 BW n5 KO R4 ho
        clear h hk e1 e2 ho hl hC
        go_wp2_with (go_at_call 46; refine hop.mono ?_; rintro e w3 ⟨u3, rfl, KO3, R43, B3, hsame⟩; have nz := Kd.R_ne R4 KZ (by decide); have nf := Kd.R_ne R4 KF (by decide); have KZ3 := (hsame gZ (blk_lt KZ) (Ne.symm n1) nz).trans KZ; have KF3 := (hsame gB (blk_lt KF) (Ne.symm n2) nf).trans KF; have R33 := R_keep2 R3 hsame KO (by decide) (Kd.R_typed R4) (by decide); have R53 := R_keep2 R5 hsame KO (by decide) (Kd.R_typed R4) (by decide); obtain ⟨z0, z1, z2, z3, z4⟩ := cells5 ⟨KZ3⟩; obtain ⟨x0, x1, x2, x3, x4⟩ := frz5 ⟨KZ3⟩; obtain ⟨o0, o1, o2, o3, o4⟩ := cells5 ⟨KO3⟩; obtain ⟨f0, f1, f2, f3⟩ := cells4 ⟨KF3⟩; obtain ⟨A43, c43, rfl⟩ := Kd.R_slice R43)
        refine bodyPost_ret (results_ctt rfl _ _ gZ 30 _ (0, 0) _ rfl (five_blk KZ3 _ _ _ _ _) Try.underlying30 rfl (by kernel_rfl)) rfl ?_
        exact end_ok _ _ _ _ _ _ _ _ _ _ _ _ #[] B3 n4 KZ3 R33 R43 R53
      · rw [if_neg ho] at h
        obtain rfl := Option.some.inj h
        have hop := opened_err gO r1 r2 r3 (.slice A3 hs.length c3) A4 c4 ms id W2 hC.1 hl KO hC.2 ho
        have he2 : ((openF ms id).2 != 0) = true := by simpa using ho
        clear h hk e1 e2 ho hl hC
        generalize (openF ms id).2 = eo at *
        go_wp2_with (go_at_call 46; refine hop.mono ?_; rintro e w3 ⟨rfl, B3⟩; have KZ3 := blk_below KZ B3; obtain ⟨z0, z1, z2, z3, z4⟩ := cells5 ⟨KZ3⟩; obtain ⟨x0, x1, x2, x3, x4⟩ := frz5 ⟨KZ3⟩)
        refine bodyPost_ret (results_ctt rfl _ _ gZ 30 _ (0, 0) _ rfl (five_blk KZ3 _ _ _ _ _) Try.underlying30 rfl (by kernel_rfl)) rfl ?_
        exact end_err _ _ _ _ (below_step BW B3) n4
    rw [if_neg hk1] at h
    have e3 : (kind == 1) = false := by simpa using hk1
    have hf := matterOf_calls r1 r2 r3 (.slice A3 hs.length c3) A4 c4 ms id W2 hl hC.2
    have hq := fnd_lt id ms 0
    generalize fnd id ms 0 = q at *
    by_cases hq0 : q < 0
    · rw [if_pos hq0] at h
      obtain rfl := Option.some.inj h
      have e4 : decide (q < 0) = true := decide_eq_true hq0
      clear h hk hk1 hl hC hq hq0
      go_wp2_with (go_at_call 47; refine hf.mono ?_; rintro e w3 ⟨rfl, B3⟩; have KZ3 := blk_below KZ B3; obtain ⟨z0, z1, z2, z3, z4⟩ := cells5 ⟨KZ3⟩; obtain ⟨x0, x1, x2, x3, x4⟩ := frz5 ⟨KZ3⟩)
      refine bodyPost_ret (results_ctt rfl _ _ gZ 30 _ (0, 0) _ rfl (five_blk KZ3 _ _ _ _ _) Try.underlying30 rfl (by kernel_rfl)) rfl ?_
      exact end_err _ _ _ _ (below_step BW B3) n4
    rw [if_neg hq0] at h
    have e4 : decide (q < 0) = false := decide_eq_false hq0
    have hqn : q < (ms.length : Int) := by omega
    have hq1 : 0 ≤ q := by omega
    have p1 : (0 ≤ q) = True := eq_true hq1
    have p2 : (q < (ms.length : Int)) = True := eq_true hqn
    obtain ⟨g4, c4', eq4, -, hg4, -⟩ := Kd.R_form R4 (by omega)
    injection eq4 with eA _ eC
    subst eA
    subst eC
    clear hq hq0 hC hl
    have hreq := fun W => required_calls kind W (by omega)
    by_cases hst : (rd_T50 ms q).f1 ≠ kind - 1
    · rw [if_pos hst] at h
      obtain rfl := Option.some.inj h
      have hd8 : ((rd_T50 ms q).f1 != kind - 1) = true := by simpa using hst
      clear h
      go_upto_region 12 with (go_at_call 47; refine hf.mono ?_; rintro e w3 ⟨rfl, B3⟩; have KF3' := blk_below KF B3; obtain ⟨f0, f1, f2, f3⟩ := cells4 ⟨KF3'⟩)
      have KZ3 := blk_below KZ B3
      have KF3 := blk_below KF B3
      have KO3 := blk_below KO B3
      have R43 := Kd.R_below R4 B3
      have hc := (elm R43 q hq1 hqn _ rfl).1
      clear f0 f1 f2 f3 o0 o1 o2 o3 o4 z0 z1 z2 z3 z4 x0 x1 x2 x3 x4 hst
      generalize (rd_T50 ms q).f1 = stt at *
      obtain ⟨f0, f1, f2, f3⟩ := cells4 ⟨KF3⟩
      obtain ⟨o0, o1, o2, o3, o4⟩ := cells5 ⟨KO3⟩
      go_region_held3 (fun w_ => w_.cell? ⟨gB, 0, none⟩ = some (.int .i64 kind) ∧ w_.cell? ⟨gO, 4, none⟩ = some (.slice (some ⟨g4, 0, none⟩) ms.length c4) ∧ w_.cell? ⟨g4, q.toNat * 5 + 1, none⟩ = some (.int .i64 stt)) (first | exact ⟨f0, o4, hc⟩ | exact ⟨f0', o4', hc'⟩ | go_keep)
        (first | (go_at_call 48; refine (hreq _).mono ?_; rintro e w4 ⟨rfl, B4⟩; have f0' := pw_cell_below B4 (show w3.drew.cell? _ = _ from f0); have o4' := pw_cell_below B4 (show w3.drew.cell? _ = _ from o4); have hc' := pw_cell_below B4 (show w3.drew.cell? _ = _ from hc)))
      have KZ4 := blk_below (blk_drew KZ3) B4
      obtain ⟨z0, z1, z2, z3, z4⟩ := cells5 ⟨KZ4⟩
      obtain ⟨x0, x1, x2, x3, x4⟩ := frz5 ⟨KZ4⟩
      go_wp2
      refine bodyPost_ret (results_ctt rfl _ _ gZ 30 _ (0, 0) _ rfl (five_blk KZ4 _ _ _ _ _) Try.underlying30 rfl (by kernel_rfl)) rfl ?_
      exact end_err _ _ _ _ (below_step (below_drew1 (below_step BW B3)) B4) n4
    rw [if_neg hst] at h
    have hst' : (rd_T50 ms q).f1 = kind - 1 := by omega
    clear hst
    have hch : ∀ W, Below W2.heap.size W2 W → Calls Try.prog 49 #[.pointer (some ⟨gO, 0, none⟩), .pointer (some ⟨g4, q.toNat * 5, none⟩), .agg #[.int .i64 kind, .int .i64 day, .int .i64 id, .int .i64 opt]] W fun e w' => ∃ c, e = .returned (.int .i64 c) ∧ (∀ k, k < W.heap.size → k ≠ g4 → w'.heap[k]? = W.heap[k]?) ∧
        (c ≠ 0 ∧ r' = dkErr c ∧ Below W.heap.size W w' ∨ c = 0 ∧ ∃ x, r' = (r1, r2, r3, hs, ms.set q.toNat x, if kind = 6 then rl ++ [⟨id, day, opt⟩] else rl, 0) ∧ (kind = 6 → rl.length < 5864062014805) ∧
          Kd.R k50 50 w' w.heap.size (fun _ => True) (.slice (some ⟨g4, 0, none⟩) ms.length c4) (ms.set q.toNat x) ∧ Below w.heap.size w w') := by
      intro W hW
      have R4W := Kd.R_below R4 hW
      have KOW := blk_below KO hW
      by_cases hop : (kind = 4 ∨ kind = 6) ∧ (opt < 0 ∨ 4 ≤ opt)
      · rw [if_pos hop] at h
        obtain rfl := Option.some.inj h
        refine (rchange_opt g4 (q.toNat * 5) gO kind day id opt W hop.1 (by omega)).mono ?_
        rintro e w' ⟨rfl, hb⟩
        exact ⟨41, rfl, fun k hk _ => hb.block k hk, .inl ⟨by decide, rfl, hb⟩⟩
      rw [if_neg hop] at h
      obtain ⟨ad, had, h⟩ := Option.bind_eq_some_iff.mp h
      have hCh := (Kd.R_reads' R3).2
      have hAdd : kind = 2 ∨ kind = 4 → RAddAt W day (if kind = 2 then r2 else r3) (.slice A3 hs.length c3) ad := by
        intro h24 W1 hW1
        rw [if_pos h24] at had
        exact (F.insolvencyref1_AddDays.calls k day (if kind = 2 then r2 else r3) A3 c3 hs ad.1 ad.2 W1 (Kd.C_below (Kd.C_below hCh.2 hW) hW1) hCh.1 had).mono (fun e w' ⟨h1, h2⟩ => ⟨h1, h2.below⟩)
      by_cases ha : ad.2 ≠ 0
      · rw [if_pos ha] at h
        obtain rfl := Option.some.inj h
        have h24 : kind = 2 ∨ kind = 4 := by
          by_cases hh : kind = 2 ∨ kind = 4
          · exact hh
          · rw [if_neg hh] at had
            obtain rfl := Option.some.inj had
            exact absurd rfl ha
        refine (rchange_add g4 (q.toNat * 5) gO kind day id opt r1 r2 r3 (.slice A3 hs.length c3) _ ad W (by omega) KOW (hAdd h24) ha).mono ?_
        rintro e w' ⟨rfl, hb⟩
        exact ⟨ad.2, rfl, fun k hk _ => hb.block k hk, .inl ⟨ha, rfl, hb⟩⟩
      rw [if_neg ha] at h
      have ha0 : ad.2 = 0 := by omega
      have hA2 : if kind = 2 ∨ kind = 4 then RAddAt W day (if kind = 2 then r2 else r3) (.slice A3 hs.length c3) ad else ad = (0, 0) := by
        by_cases hh : kind = 2 ∨ kind = 4
        · rw [if_pos hh]; exact hAdd hh
        · rw [if_neg hh] at had ⊢
          exact (Option.some.inj had).symm
      refine (rchange_ok g4 gO q c4 ms (fun _ => True) kind day id opt r1 r2 r3 (.slice A3 hs.length c3) _ ad w W (below_step BW hW) hq1 hqn (by omega) KOW R4W hA2 ha0).mono ?_
      rintro e w' ⟨rfl, hR, hB, hs2⟩
      by_cases h6 : kind = 6
      · rw [if_pos h6] at h
        by_cases hrl : rl.length < 5864062014805
        · rw [if_pos hrl] at h
          obtain rfl := Option.some.inj h
          exact ⟨0, rfl, hs2, .inr ⟨rfl, _, by rw [if_pos h6], fun _ => hrl, hR, hB⟩⟩
        · rw [if_neg hrl] at h; cases h
      · rw [if_neg h6] at h
        obtain rfl := Option.some.inj h
        exact ⟨0, rfl, hs2, .inr ⟨rfl, _, by rw [if_neg h6], fun h => absurd h h6, hR, hB⟩⟩
    clear h hk hk1
    have hd8 : ((kind - 1) != (kind - 1)) = false := by simp
    go_upto_region 12 with (go_at_call 47; refine hf.mono ?_; rintro e w3a ⟨rfl, B3a⟩; have KF3' := blk_below KF B3a; obtain ⟨f0, f1, f2, f3⟩ := cells4 ⟨KF3'⟩)
    have KF3a := blk_below KF B3a
    have KO3a := blk_below KO B3a
    have hc := (elm (Kd.R_below R4 B3a) q hq1 hqn _ rfl).1
    rw [hst'] at hc
    clear f0 f1 f2 f3 o0 o1 o2 o3 o4 z0 z1 z2 z3 z4 x0 x1 x2 x3 x4
    obtain ⟨f0, f1, f2, f3⟩ := cells4 ⟨KF3a⟩
    obtain ⟨o0, o1, o2, o3, o4⟩ := cells5 ⟨KO3a⟩
    generalize hkm : kind - 1 = km at *
    go_region_held3 (fun w_ => w_.cell? ⟨gB, 0, none⟩ = some (.int .i64 kind) ∧ w_.cell? ⟨gO, 4, none⟩ = some (.slice (some ⟨g4, 0, none⟩) ms.length c4) ∧ w_.cell? ⟨g4, q.toNat * 5 + 1, none⟩ = some (.int .i64 km)) (first | exact ⟨f0, o4, hc⟩ | exact ⟨f0', o4', hc'⟩ | go_keep)
      (first | (go_at_call 48; refine (hreq _).mono ?_; rintro e w3 ⟨rfl, B4a⟩; have f0' := pw_cell_below B4a (show w3a.drew.cell? _ = _ from f0); have o4' := pw_cell_below B4a (show w3a.drew.cell? _ = _ from o4); have hc' := pw_cell_below B4a (show w3a.drew.cell? _ = _ from hc)))
    have B3 : Below W2.heap.size W2 w3 := below_step (below_drew1 B3a) B4a
    clear f0 f1 f2 f3 o0 o1 o2 o3 o4 hc f0' o4' hc' KF3a KO3a B3a B4a
    have KZ3 := blk_below KZ B3
    have KF3 := blk_below KF B3
    have KO3 := blk_below KO B3
    obtain ⟨f0, f1, f2, f3⟩ := cells4 ⟨KF3⟩
    obtain ⟨o0, o1, o2, o3, o4⟩ := cells5 ⟨KO3⟩
    go_upto_region 9 with (fail)
    have R33 := Kd.R_below R3 B3
    have R43 := Kd.R_below R4 B3
    have R53 := Kd.R_below R5 B3
    have hcal := hch w3.drew (below_drew1 B3)
    clear hch hkm hd8
    have nF : gB ≠ g4 := fun he => Kd.R_ne R4 KF (by decide) (by rw [he]; simp [Value.ownBlock])
    have nO : gO ≠ g4 := fun he => Kd.R_ne R4 KO (by decide) (by rw [he]; simp [Value.ownBlock])
    have nZ : gZ ≠ g4 := fun he => Kd.R_ne R4 KZ (by decide) (by rw [he]; simp [Value.ownBlock])
    go_region_held3 (fun w_ => w_.cell? ⟨gB, 0, none⟩ = some (.int .i64 kind) ∧ w_.cell? ⟨gB, 1, none⟩ = some (.int .i64 day) ∧ w_.cell? ⟨gB, 2, none⟩ = some (.int .i64 id) ∧ w_.cell? ⟨gB, 3, none⟩ = some (.int .i64 opt) ∧ w_.cell? ⟨gO, 4, none⟩ = some (.slice (some ⟨g4, 0, none⟩) ms.length c4)) (first | exact ⟨f0, f1, f2, f3, o4⟩ | exact ⟨f0', f1', f2', f3', o4'⟩ | go_keep)
      (first | (go_at_call 49; refine hcal.mono ?_; rintro e w4 ⟨c, rfl, hs4, hcc⟩; have KF4 := (hs4 gB (blk_lt (blk_drew KF3)) nF).trans (blk_drew KF3); have KO4 := (hs4 gO (blk_lt (blk_drew KO3)) nO).trans (blk_drew KO3); have KZ4 := (hs4 gZ (blk_lt (blk_drew KZ3)) nZ).trans (blk_drew KZ3); obtain ⟨f0', f1', f2', f3'⟩ := cells4 ⟨KF4⟩; obtain ⟨o0', o1', o2', o3', o4'⟩ := cells5 ⟨KO4⟩))
    obtain ⟨z0, z1, z2, z3, z4⟩ := cells5 ⟨KZ4⟩
    obtain ⟨x0, x1, x2, x3, x4⟩ := frz5 ⟨KZ4⟩
    clear f0 f1 f2 f3 o0 o1 o2 o3 o4 p1 p2
    rcases hcc with ⟨hc0, rfl, hb4⟩ | ⟨rfl, x, hr', hrl, R44, B4⟩
    · have he2 : (c != 0) = true := by simpa using hc0
      clear hc0
      go_wp2
      refine bodyPost_ret (results_ctt rfl _ _ gZ 30 _ (0, 0) _ rfl (five_blk KZ4 _ _ _ _ _) Try.underlying30 rfl (by kernel_rfl)) rfl ?_
      exact end_err _ _ _ _ (below_step (below_drew1 (below_step BW B3)) hb4) n4
    obtain ⟨gc, hgc⟩ := Kd.R_typed (Kd.R_drew R43) g4 (by simp [Value.ownBlock])
    have R34 := R_keep2 (u := .slice none 0 0) (t2 := 0) (Kd.R_drew R33) (fun k h1 h2 _ => hs4 k h1 h2) hgc (by decide) (fun k hk => by simp [Value.ownBlock] at hk) (by decide)
    have R54 := R_keep2 (u := .slice none 0 0) (t2 := 0) (Kd.R_drew R53) (fun k h1 h2 _ => hs4 k h1 h2) hgc (by decide) (fun k hk => by simp [Value.ownBlock] at hk) (by decide)
    by_cases h6 : kind = 6
    · subst h6
      rw [if_pos rfl] at hr'
      subst hr'
      have hrl := hrl rfl
      have NF := Kd.R_ne R54 KF4 (by decide)
      have NO := Kd.R_ne R54 KO4 (by decide)
      have NZ := Kd.R_ne R54 KZ4 (by decide)
      go_wp2_with (first | ((with_reducible refine gate_builtin (b := .append) (xs := #[.tmp 69, .tmp 77]) rfl ?_); at_builtin; refine Kd.R_append k52 (w0 := w) w.heap.size rfl (.tmp 69) (.tmp 77) 32 52 (.agg #[(.int .i64 0), (.int .i64 0), (.int .i64 0)]) 24 rfl Try.underlying32 info52 rfl (by decide) (by omega) _ rl (⟨id, day, opt⟩ : S52) [.int .i64 id, .int .i64 day, .int .i64 opt] (fun _ => True) (fun _ => False) rfl rfl ?aP (fun _ hk => hk.elim) ?aF ?aO ?aB ?aS ?aL ?_; (case aP => exact k52_mkM _ _ _ (⟨id, day, opt⟩ : S52)); (case aB => exact B4); (case aF => exact (fun _ _ => trivial)); (case aO => exact R54); (case aS => exact B4.size); (case aL => omega); intro v5 w5 ho5 hb5 hgr hat; change w4.grownBy w5 (Value.slice A5 rl.length c5).ownBlock at hgr; obtain ⟨A6, c6, rfl⟩ := Kd.R_slice ho5; have KZ5 := blk_grown KZ4 hgr NZ; have KO5 := blk_grown KO4 hgr NO; obtain ⟨z0, z1, z2, z3, z4⟩ := cells5 ⟨KZ5⟩; obtain ⟨x0, x1, x2, x3, x4⟩ := frz5 ⟨KZ5⟩; obtain ⟨o0', o1', o2', o3', o4'⟩ := cells5 ⟨KO5⟩))
      refine bodyPost_ret (results_ctt rfl _ _ gZ 30 _ (0, 0) _ rfl (five_blk KZ5 _ _ _ _ _) Try.underlying30 rfl (by kernel_rfl)) rfl ?_
      simp only [List.length_append, List.length_cons, List.length_nil, Nat.zero_add] at ho5
      have R35 := Kd.R_over' (v := .slice A5 rl.length c5) R34 (Kd.R_typed R54) (by decide) hgr
      have R45 := Kd.R_over' (v := .slice A5 rl.length c5) R44 (Kd.R_typed R54) (by decide) hgr
      exact end_ok _ _ _ _ _ _ _ _ _ _ _ _ #[] hb5 n4 KZ5 R35 R45 (Kd.R_mono ho5 (fun _ _ => trivial))
    · have e6 : (kind == 6) = false := by simpa using h6
      rw [if_neg h6] at hr'
      subst hr'
      clear h6 hrl
      go_wp2
      refine bodyPost_ret (results_ctt rfl _ _ gZ 30 _ (0, 0) _ rfl (five_blk KZ4 _ _ _ _ _) Try.underlying30 rfl (by kernel_rfl)) rfl ?_
      exact end_ok _ _ _ _ _ _ _ _ _ _ _ _ #[] B4 n4 KZ4 R34 R44 R54
  · rw [if_neg he] at h
    obtain rfl := Option.some.inj h
    have he2 : (r7 != 0) = true := by simpa using he
    clear he h
    go_wp2
    refine bodyPost_ret (results_ctt rfl _ _ gZ 30 _ (0, 0) _ rfl (five_blk KZ _ _ _ _ _) Try.underlying30 rfl (by kernel_rfl)) rfl ?_
    exact end_err _ _ _ _ BW n4
theorem ref_File.calls (k : Nat) (a0_0 : Int) (a0_1 : Int) (a0_2 : Int) (A0_3 : Option Addr) (c0_3 : Nat) (l0_3 : List Int) (A0_4 : Option Addr) (c0_4 : Nat) (l0_4 : List S50) (a1_0 a1_1 a1_2 a1_3 : Int) (r1 : Int) (r2 : Int) (r3 : Int) (r4 : List Int) (r5 : List S50) (r6 : List S52) (r7 : Int) (w : World) (hr0_3 : Kd.C (Kd.int .i64) w A0_3 l0_3.length l0_3) (hc0_3 : l0_3.length ≤ c0_3) (hr0_4 : Kd.C k50 w A0_4 l0_4.length l0_4) (hc0_4 : l0_4.length ≤ c0_4) (h : ref_File.f k a0_0 a0_1 a0_2 l0_3 l0_4 a1_0 a1_1 a1_2 a1_3 = some (r1, r2, r3, r4, r5, r6, r7)) :
    Calls Try.prog 28 #[.agg #[.int .i64 a0_0, .int .i64 a0_1, .int .i64 a0_2, .slice A0_3 l0_3.length c0_3, .slice A0_4 l0_4.length c0_4], .agg #[.int .i64 a1_0, .int .i64 a1_1, .int .i64 a1_2, .int .i64 a1_3]] w fun e w' => ∃ v3_ v4_ v5_ : Value, e = .returned (.tuple #[.agg #[.int .i64 r1, .int .i64 r2, .int .i64 r3, v3_, v4_], v5_, .int .i64 r7]) ∧ Kd.R (Kd.int .i64) 3 w' w.heap.size (fun _ => True) v3_ r4 ∧ Kd.R k50 50 w' w.heap.size (fun _ => True) v4_ r5 ∧ Kd.R k52 52 w' w.heap.size (fun _ => True) v5_ r6 ∧ Below w.heap.size w w' := by
  unfold ref_File.f at h
  obtain ⟨r, hr, h⟩ := Option.bind_eq_some_iff.mp h
  have hb := fil_below w a0_0 a0_1 a0_2 (.slice A0_3 l0_3.length c0_3) (.slice A0_4 l0_4.length c0_4) a1_0 a1_1 a1_2 a1_3
  have hA := insolvencyref33_Advance.calls k a0_0 a0_1 a0_2 A0_3 c0_3 l0_3 A0_4 c0_4 l0_4 a1_1 r.1 r.2.1 r.2.2.1 r.2.2.2.1 r.2.2.2.2.1 r.2.2.2.2.2.1 r.2.2.2.2.2.2 _ (Kd.C_below hr0_3 hb) hc0_3 (Kd.C_below hr0_4 hb) hc0_4 hr
  exact rfile_walk k a0_0 a0_1 a0_2 _ _ a1_0 a1_1 a1_2 a1_3 r (r1, r2, r3, r4, r5, r6, r7) w hA h
end Go.Proofs.Ytpfiecjacpbhkaa.D

namespace Go.Proofs.Ytpfiecjacpbhkaa.D
open Go.RowKit Go.Maps Go.Proofs.YtpfiecjacpbhkaaW.PrintWords Go.Proofs.YtpfiecjacpbhkaaW.PrintLast Go.Proofs.YtpfiecjacpbhkaaW.PrintMore
set_option linter.unusedVariables false
set_option linter.unusedSimpArgs false
def matGo : List S83 → Int → (Int → Int) → List S47
  | [], _, _ => []
  | x :: r, day, st =>
    if 6 ≤ st (wrap64 (Int.tmod x.f2 4)) then matGo r (wrap64 (day + wrap64 (Int.tmod x.f1 4))) st
    else ⟨wrap64 (1 + st (wrap64 (Int.tmod x.f2 4))), wrap64 (day + wrap64 (Int.tmod x.f1 4)), wrap64 (Int.tmod x.f2 4), wrap64 (Int.tmod x.f3 4)⟩ ::
      matGo r (wrap64 (day + wrap64 (Int.tmod x.f1 4))) (fun i => if i = wrap64 (Int.tmod x.f2 4) then wrap64 (st (wrap64 (Int.tmod x.f2 4)) + 1) else st i)
def law0_Matters.f (k : Nat) (l0 : List S83) : Option (List S47) := some (matGo (l0.take 24) 0 (fun _ => 0))
theorem law0_Matters.mono : ∀ a0 k, LeO (law0_Matters.f k a0) (law0_Matters.f (k + 1) a0) := fun _ _ => LeO.refl _
theorem undMapI : Try.prog.underlying 82 = some (.map 3 3) := by kernel_rfl
theorem undI : Try.prog.underlying 3 = some (.int .i64) := by kernel_rfl
theorem zeroI (w : World) : (zeroValue 3).run Try.prog w = .ok (.int .i64 0) w := by kernel_rfl
theorem keyI (i : Int) (hi : (Lit.int .i64 i).wf = true) : keyOf Try.prog 3 (.int .i64 i) = some (.int .i64 i) := by simp [keyOf, undI, mapKey, hi]
theorem lawI : Keyed Try.prog 3 := int_keyed undI
theorem wf64 (x : Int) : (Lit.int .i64 (wrap64 x)).wf = true := by
  simp [Lit.wf, IntKind.min, IntKind.max, IntKind.signed, IntKind.bits]
  unfold wrap64
  omega
def IsTab (W : World) (g : Nat) (f : Int → Int) (m : Nat) : Prop :=
  ∃ n D, n ≤ m ∧ W.ownsMap Try.prog 3 (plainElem (H := Unit) Try.prog 3) g n D ∧ ∀ i : Int, (Lit.int .i64 i).wf = true → D.atKey (.int .i64 i) (.lit (.int .i64 0)) = .lit (.int .i64 (f i))
theorem IsTab.lt {W : World} {g m : Nat} {f : Int → Int} (h : IsTab W g f m) : g < W.heap.size := by
  obtain ⟨n, D, _, h2, _⟩ := h
  exact h2.lt
theorem IsTab.made (w : World) : IsTab (w.alloc (.map #[] 0)) w.heap.size (fun _ => 0) 0 := ⟨0, .map [], Nat.le_refl _, World.ownsMap_made w _ _ _, fun i _ => by simp [DataW.atKey]⟩
theorem IsTab.alloc {W : World} {g m : Nat} {f : Int → Int} (h : IsTab W g f m) (o : Obj) : IsTab (W.alloc o) g f m := by
  obtain ⟨n, D, h1, h2, h3⟩ := h
  exact ⟨n, D, h1, h2.alloc o, h3⟩
theorem IsTab.grown {W W' : World} {row : Option Nat} {g m : Nat} {f : Int → Int} (h : IsTab W g f m) (hg : W.grownBy W' row) (hne : some g ≠ row) : IsTab W' g f m := by
  obtain ⟨n, D, h1, h2, h3⟩ := h
  exact ⟨n, D, h1, h2.kept hg hne, h3⟩
theorem IsTab.le {W : World} {g m m' : Nat} {f : Int → Int} (h : IsTab W g f m) (hm : m ≤ m') : IsTab W g f m' := by
  obtain ⟨n, D, h1, h2⟩ := h
  exact ⟨n, D, by omega, h2⟩
theorem IsTab.obj {W : World} {g m : Nat} {f : Int → Int} (h : IsTab W g f m) : ∃ es ck, W.heap[g]? = some (.map es ck) := by
  obtain ⟨n, D, h1, ⟨es, ck, hb, F, hs, hD⟩, h3⟩ := h
  exact ⟨es, ck, hb⟩
theorem R_ne_tab {α : Type} {d : Kd α} {e base g m : Nat} {w : World} {ok : Nat → Prop} {v : Value} {xs : List α} {f : Int → Int} (h : d.R e w base ok v xs) (ht : IsTab w g f m) : some g ≠ v.ownBlock := by
  obtain ⟨es, ck, hb⟩ := ht.obj
  obtain ⟨inner, ho, _⟩ := h.2
  rcases ho.2 with ⟨rfl, _⟩ | ⟨g', cap, cur, rfl, _, hh, _⟩
  · simp [Value.ownBlock]
  · intro he
    have e' : g = g' := by simpa [Value.ownBlock] using he
    subst e'
    rw [hb] at hh
    cases hh
theorem R_tab {α : Type} {d : Kd α} {e base g m : Nat} {w w' : World} {ok : Nat → Prop} {v : Value} {xs : List α} {f : Int → Int} (h : d.R e w base ok v xs) (ht : IsTab w g f m) (hg : w.grownBy w' (some g)) : d.R e w' base ok v xs := by
  obtain ⟨es, ck, hb⟩ := ht.obj
  refine Kd.R_mono (Kd.R_step (Kd.R_bound h) (fun k hk hlt => hg.block k hlt ?_)) (fun _ hk => hk.1)
  intro he
  have e' : k = g := by simpa using he
  subst e'
  obtain ⟨_, _, _, q, hq, cs, hc⟩ := hk
  rw [hb] at hc
  cases hc
section
variable {P : Program} {ops : Array Oper} {Q : Exit → Act → World → Prop}
theorem gate_look {t : TypeId} {m x : Operand} {c : Bool} {o : Oper} {rest : List Oper} {a : Act} {W : World} (_ho : o.op = Op.lookup t m x c) (h : wpList P ops Q (o :: rest) a W) : wpList P ops Q (o :: rest) a W := h
theorem gate_put {t : TypeId} {m x v : Operand} {o : Oper} {rest : List Oper} {a : Act} {W : World} (_ho : o.op = Op.mapUpdate t m x v) (h : wpList P ops Q (o :: rest) a W) : wpList P ops Q (o :: rest) a W := h
theorem lookT_ {rest : List Oper} {o : Oper} {a : Act} {w : World} (hg : o.guard = none) {m x : Operand} (hop : o.op = Op.lookup 82 m x false)
    {g n : Nat} {f : Int → Int} (i : Int) (hm : a.eval m = .map (some g)) (hx : a.eval x = .int .i64 i) (hs : IsTab w g f n) (hi : (Lit.int .i64 i).wf = true)
    (h : wpList Try.prog ops Q rest (a.put o.dst (.int .i64 (f i))) w) : wpList Try.prog ops Q (o :: rest) a w := by
  obtain ⟨n, D, _, h2, h3⟩ := hs
  refine wpList_lookup_own_int w hg m x 82 hop 3 3 .i64 lawI undMapI undI (zeroI w) g n D hm h2 _ _ hx (keyI i hi) (fun c hc _ => ?_)
  have e := hc.symm.trans (h3 i hi)
  simp only [DataW.lit.injEq, Lit.int.injEq, true_and] at e
  rw [e]
  exact h
theorem putT_ {rest : List Oper} {o : Oper} {a : Act} {w : World} (hd : o.dst = none) (hg : o.guard = none) {m x v : Operand} (hop : o.op = Op.mapUpdate 82 m x v)
    {g n : Nat} {f : Int → Int} (i y : Int) (hm : a.eval m = .map (some g)) (hx : a.eval x = .int .i64 i) (hv : a.eval v = .int .i64 y) (hs : IsTab w g f n) (hi : (Lit.int .i64 i).wf = true) (hy : (Lit.int .i64 y).wf = true) (hn : n < maxLen)
    (h : ∀ w', IsTab w' g (fun j => if j = i then y else f j) (n + 1) → w.grownBy w' (some g) → wpList Try.prog ops Q rest (a.put none undef) w') : wpList Try.prog ops Q (o :: rest) a w := by
  obtain ⟨n', D, h1, h2, h3⟩ := hs
  refine wpList_mapUpdate_own w hg m x v 82 hop 3 3 lawI undMapI _ g n' D hm h2 (by omega) _ _ _ hx hv (keyI i hi) _ [] (plainElem_int undI hy) ?_
  intro w' o1 o2
  rw [hd]
  refine h w' ⟨n' + 1, _, by omega, o1, ?_⟩ o2
  intro j hj
  have hM : IsMap D := by obtain ⟨es, clock, _, _, _, rfl⟩ := h2; exact ⟨_, rfl⟩
  by_cases e : j = i
  · subst e
    rw [atKey_put_same hM (lawI.key (keyI j hj))]
    simp
  · rw [atKey_put_other (by simpa using e), h3 j hj]
    simp [e]
end
theorem mat_step (l : List S83) (j : Nat) (h : j < l.length) (day : Int) (st : Int → Int) (acc r : List S47) (I : acc ++ matGo (l.drop j) day st = r) :
    (6 ≤ st (wrap64 (Int.tmod l[j].f2 4)) → acc ++ matGo (l.drop (j + 1)) (wrap64 (day + wrap64 (Int.tmod l[j].f1 4))) st = r) ∧
    (¬ 6 ≤ st (wrap64 (Int.tmod l[j].f2 4)) → (acc ++ [⟨wrap64 (1 + st (wrap64 (Int.tmod l[j].f2 4))), wrap64 (day + wrap64 (Int.tmod l[j].f1 4)), wrap64 (Int.tmod l[j].f2 4), wrap64 (Int.tmod l[j].f3 4)⟩]) ++
      matGo (l.drop (j + 1)) (wrap64 (day + wrap64 (Int.tmod l[j].f1 4))) (fun i => if i = wrap64 (Int.tmod l[j].f2 4) then wrap64 (st (wrap64 (Int.tmod l[j].f2 4)) + 1) else st i) = r) := by
  rw [List.drop_eq_getElem_cons h, matGo] at I
  constructor
  · intro h6
    rw [if_pos h6] at I
    exact I
  · intro h6
    rw [if_neg h6] at I
    rw [List.append_assoc]
    exact I
theorem meas24 {n j : Nat} {x : Int} (hx : x = ((j + 1 : Nat) : Int)) (h : j < n) : n - (intOf (.int .i64 x)).toNat < n - (intOf (.int .i64 (j : Int))).toNat := by
  subst hx
  show n - Int.toNat ((j + 1 : Nat) : Int) < n - Int.toNat (j : Int)
  rw [Int.toNat_natCast, Int.toNat_natCast]
  omega
theorem w64s (j : Nat) (h : j < 24) : wrap64 ((j : Int) + 1) = ((j + 1 : Nat) : Int) := by unfold wrap64; omega
set_option maxHeartbeats 8000000 in
set_option maxRecDepth 100000 in
theorem law0_Matters.calls (k : Nat) (A0 : Option Addr) (c0 : Nat) (l0 : List S83) (r : List S47) (w : World) (hr0 : Kd.C k83 w A0 l0.length l0) (hc0 : l0.length ≤ c0) (h : law0_Matters.f k l0 = some r) :
    Calls Try.prog 19 #[.slice A0 l0.length c0] w fun e w' => ∃ v0_ : Value, e = .returned (v0_) ∧ Kd.R k47 47 w' w.heap.size (fun _ => True) v0_ r ∧ Below w.heap.size w w' := by
  have hu := Try.underlying83
  have hu2 := Try.underlying47
  have hmm := @run_makeMap Try.prog
  have I0 : ([] : List S47) ++ matGo ((l0.take 24).drop 0) 0 (fun _ => 0) = r := Option.some.inj h
  clear h
  have HR := Aside0.mk hr0
  have R0 := Aside0.mk I0
  clear hr0 I0
  go_enter Try.func19, Try.ntmps19
  go_wp2
  have T0 := IsTab.made w
  have B0 : Below w.heap.size w (w.alloc (.map #[] 0)) := below_alloc (Below.refl _ _) _
  generalize w.alloc (.map #[] 0) = wm at T0 B0 ⊢
  have HB0 := Aside0.mk B0
  have HT0 := Aside0.mk T0
  clear B0 T0
  go_loopg [3, 4, 6] 24 (fun kx s3 s4 s6 wr => ∃ (j : Nat) (day : Int) (st : Int → Int) (acc : List S47), s4 = .int .i64 day ∧ s6 = .int .i64 j ∧ j ≤ l0.length ∧ j ≤ 24 ∧ 24 - j ≤ kx ∧ acc.length ≤ j ∧ Aside0 (IsTab wr w.heap.size st j) ∧ Aside0 (acc ++ matGo ((l0.take 24).drop j) day st = r) ∧
      Aside0 (Kd.R k47 47 wr w.heap.size (fun _ => True) s3 acc) ∧ Aside0 (Below w.heap.size w wr))
  case atStart => exact ⟨0, 0, fun _ => 0, [], rfl, rfl, Nat.zero_le _, by omega, by omega, Nat.le_refl _, HT0, R0, ⟨Kd.R_nil _ _ _ _ _⟩, HB0⟩
  case round =>
    obtain ⟨j, day, st, acc, rfl, rfl, hj, hj4, hk, hac, TT, I, RR, HB⟩ := hrel
    clear R0 HB0 HT0
    obtain ⟨A3, c3, rfl⟩ := Kd.R_slice RR.out
    by_cases hlt : j < l0.length
    · have hd : decide ((j : Int) < (l0.length : Int)) = true := decide_eq_true (by omega)
      by_cases h24 : j < 24
      · obtain ⟨k1, rfl⟩ : ∃ m, gk = m + 1 := ⟨gk - 1, by omega⟩
        have hd2 : decide ((j : Int) < 24) = true := decide_eq_true (by omega)
        have p0 : 0 ≤ (j : Int) := Int.natCast_nonneg j
        have q0 : (j : Int) < (l0.length : Int) := by omega
        have hjt : j < (l0.take 24).length := by rw [List.length_take]; omega
        have er : rd_T83 l0 (j : Int) = (l0.take 24)[j] := by
          unfold rd_T83
          rw [Int.toNat_natCast, List.getD_eq_getElem?_getD, List.getElem?_eq_getElem hlt, List.getElem_take]
          rfl
        have ms := mat_step (l0.take 24) j hjt day st acc r I.out
        obtain ⟨ad, ea, h0, h1, h2, h3⟩ := at_T83 HR.out (j : Int) p0 q0
        cases ea
        rw [er, Int.toNat_natCast] at h0 h1 h2 h3
        replace h0 := (HB.out.cell (World.block_lt_of_cell? w _ h0)).trans h0
        replace h1 := (HB.out.cell (World.block_lt_of_cell? w _ h1)).trans h1
        replace h2 := (HB.out.cell (World.block_lt_of_cell? w _ h2)).trans h2
        replace h3 := (HB.out.cell (World.block_lt_of_cell? w _ h3)).trans h3
        have hw := w64s j h24
        generalize (l0.take 24)[j] = y at *
        have p1 := eq_true p0
        have q1 := eq_true q0
        have TA := Aside0.mk (TT.out.alloc (.cells #[.int .u8 y.f0, .int .u8 y.f1, .int .u8 y.f2, .int .u8 y.f3] 83 (0, 0)))
        clear p0 q0 I er hjt
        by_cases h6 : 6 ≤ st (wrap64 (Int.tmod y.f2 4))
        · have hd3 : decide (6 ≤ st (wrap64 (Int.tmod y.f2 4))) = true := decide_eq_true h6
          have I2 := Aside0.mk (ms.1 h6)
          clear ms h6
          go_wp2_with ((with_reducible refine gate_look (t := 82) rfl ?_); refine lookT_ rfl rfl (wrap64 (Int.tmod y.f2 4)) rfl rfl TA.out (wf64 _) ?_)
          go_roundg k1
          case measure => omega
          case rel => exact ⟨j + 1, _, st, acc, rfl, by first | rw [hw] | (simp only [hw]; done) | go_num, by omega, by omega, by omega, by omega, ⟨TA.out.le (Nat.le_succ j)⟩, I2, ⟨Kd.R_alloc RR.out _⟩, ⟨below_alloc HB.out _⟩⟩
        · have hd3 : decide (6 ≤ st (wrap64 (Int.tmod y.f2 4))) = false := decide_eq_false h6
          have I2 := Aside0.mk (ms.2 h6)
          clear ms h6
          have KX := blk_new wr (.cells #[.int .u8 y.f0, .int .u8 y.f1, .int .u8 y.f2, .int .u8 y.f3] 83 (0, 0))
          have hne : some wr.heap.size ≠ some w.heap.size := by have := TT.out.lt; simp; omega
          go_wp2_with (first | ((with_reducible refine gate_look (t := 82) rfl ?_); refine lookT_ rfl rfl (wrap64 (Int.tmod y.f2 4)) rfl rfl TA.out (wf64 _) ?_) |
            ((with_reducible refine gate_put (t := 82) rfl ?_); refine putT_ rfl rfl rfl (wrap64 (Int.tmod y.f2 4)) (wrap64 (st (wrap64 (Int.tmod y.f2 4)) + 1)) rfl rfl rfl TA.out (wf64 _) (wf64 _) ?hn ?_; (case hn => unfold maxLen; omega); intro w2 T2 hg2; have K2 := blk_grown KX hg2 hne; have R2 := R_tab (Kd.R_alloc RR.out _) TA.out hg2; have B2 : Below w.heap.size w w2 := (below_alloc HB.out _).grown hg2 (below_alloc HB.out _).size (fun k hk => by cases hk; exact Nat.le_refl _); obtain ⟨kc0, kc1, kc2, kc3⟩ := cells4 ⟨K2⟩) |
            ((with_reducible refine gate_builtin (b := .append) (xs := #[.tmp 44, .tmp 54]) rfl ?_); at_builtin; refine Kd.R_append k47 (w0 := w) w.heap.size rfl (.tmp 44) (.tmp 54) 43 47 (.agg #[(.int .i64 0), (.int .i64 0), (.int .i64 0), (.int .i64 0)]) 32 rfl Try.underlying43 info47 rfl (by decide) (by omega) _ acc (⟨wrap64 (1 + st (wrap64 (Int.tmod y.f2 4))), wrap64 (day + wrap64 (Int.tmod y.f1 4)), wrap64 (Int.tmod y.f2 4), wrap64 (Int.tmod y.f3 4)⟩ : S47) [.int .i64 (wrap64 (1 + st (wrap64 (Int.tmod y.f2 4)))), .int .i64 (wrap64 (day + wrap64 (Int.tmod y.f1 4))), .int .i64 (wrap64 (Int.tmod y.f2 4)), .int .i64 (wrap64 (Int.tmod y.f3 4))] (fun _ => True) (fun _ => False) rfl rfl ?aP (fun _ hk => hk.elim) ?aF ?aO ?aB ?aS ?aL ?_; (case aP => exact k47_mkM _ _ _ (⟨_, _, _, _⟩ : S47)); (case aB => exact B2); (case aF => exact (fun _ _ => trivial)); (case aO => exact R2); (case aS => exact B2.size); (case aL => omega); intro v5 w5 ho5 hb5 hgr hat; obtain ⟨A6, c6, rfl⟩ := Kd.R_slice ho5; have T5 := T2.grown hgr (R_ne_tab R2 T2)))
          go_roundg k1
          case measure => omega
          case rel => exact ⟨j + 1, _, _, _, rfl, by first | rw [hw] | (simp only [hw]; done) | go_num, by omega, by omega, by omega, by simp; omega, ⟨T5⟩, I2, ⟨by simpa using Kd.R_mono ho5 (fun _ _ => trivial)⟩, ⟨hb5⟩⟩
      · obtain rfl : j = 24 := by omega
        have I2 := I.out
        rw [List.drop_eq_nil_of_le (by rw [List.length_take]; omega), matGo, List.append_nil] at I2
        subst I2
        have hd2 : decide (((24 : Nat) : Int) < 24) = false := decide_eq_false (by omega)
        clear TT I
        go_wp2
        go_ret
        exact ⟨_, rfl, RR.out, HB.out⟩
    · obtain rfl : j = l0.length := by omega
      have I2 := I.out
      rw [List.drop_eq_nil_of_le (by rw [List.length_take]; omega), matGo, List.append_nil] at I2
      subst I2
      have hd : decide ((l0.length : Int) < (l0.length : Int)) = false := decide_eq_false (by omega)
      clear TT I
      go_wp2
      go_ret
      exact ⟨_, rfl, RR.out, HB.out⟩
end Go.Proofs.Ytpfiecjacpbhkaa.D

namespace Go.Proofs.Ytpfiecjacpbhkaa.D
open Go.RowKit Go.Proofs.YtpfiecjacpbhkaaW.PrintWords Go.Proofs.YtpfiecjacpbhkaaW.PrintLast Go.Proofs.YtpfiecjacpbhkaaW.PrintMore
set_option linter.unusedVariables false
set_option linter.unusedSimpArgs false
def insolvencylaw33_built.l0 : Nat → List (S47) → Int → Int → Int → Int → List Int → List (S50) → Option (Int × Int × Int × List Int × (List (S50)))
 | 0, _, _, _, _, _, _, _ => none
 | k + 1, x9, x10, x339000, x339001, x339002, x339003, x339004 => if x10 < (x9.length : Int) then (if 0 ≤ x10 then ((ref_File.f k x339000 x339001 x339002 x339003 x339004 ((rd_T47 x9 x10).f0) ((rd_T47 x9 x10).f1) ((rd_T47 x9 x10).f2) ((rd_T47 x9 x10).f3)).bind fun bt343 => (if bt343.2.2.2.2.2.2 = 0 then (insolvencylaw33_built.l0 k x9 (wrap64 (x10 + 1)) bt343.1 bt343.2.1 bt343.2.2.1 bt343.2.2.2.1 bt343.2.2.2.2.1) else (insolvencylaw33_built.l0 k x9 (wrap64 (x10 + 1)) x339000 x339001 x339002 x339003 x339004))) else (none)) else (some (x339000, x339001, x339002, x339003, x339004))
def insolvencylaw33_built.f (k : Nat) (a0_0 : Int) (a0_1 : Int) (l1 : List Int) (l2 : List (S83)) : Option (Int × Int × Int × List Int × (List (S50))) := (insolvencylaw0_Terms.f k a0_0 a0_1 l1).bind fun bt323 => ((insolvencyref33_NewDocket.f 0 bt323.1 bt323.2.1 bt323.2.2).bind fun bt328 => ((law0_Matters.f k l2).bind fun t339 => (insolvencylaw33_built.l0 k t339 0 bt328.1 bt328.2.1 bt328.2.2.1 bt328.2.2.2.1 bt328.2.2.2.2.1)))
theorem insolvencylaw33_built.mono_l : ∀ k, (∀ y0 y1 y2 y3 y4 y5 y6, LeO (insolvencylaw33_built.l0 k y0 y1 y2 y3 y4 y5 y6) (insolvencylaw33_built.l0 (k + 1) y0 y1 y2 y3 y4 y5 y6))
 | 0 => fun _ _ _ _ _ _ _ r h => by simp [insolvencylaw33_built.l0] at h
 | k + 1 => by
  have ih0 := insolvencylaw33_built.mono_l k
  ·intro y0 y1 y2 y3 y4 y5 y6
   unfold insolvencylaw33_built.l0
   repeat' first
   | (with_reducible exact ih0 _ _ _ _ _ _ _)
   | (with_reducible exact insolvencylaw0_Terms.mono _ _ _ _)
   | (with_reducible exact law0_Matters.mono _ _)
   | (with_reducible exact ref_File.mono _ _ _ _ _ _ _ _ _ _)
   | (with_reducible exact LeO.refl _)
   | (with_reducible exact LeO.none _)
   | (with_reducible refine LeO.ite ?_ ?_)
   | (with_reducible refine LeO.bind ?_ (fun _ => ?_))
   | exact ih0 _ _ _ _ _ _ _
   | exact insolvencylaw0_Terms.mono _ _ _ _
   | exact law0_Matters.mono _ _
   | exact ref_File.mono _ _ _ _ _ _ _ _ _ _
   | exact LeO.none _
   | refine LeO.ite ?_ ?_
   | refine LeO.bind ?_ (fun _ => ?_)
theorem insolvencylaw33_built.mono : ∀ a0 a1 a2 a3 k, LeO (insolvencylaw33_built.f k a0 a1 a2 a3) (insolvencylaw33_built.f (k + 1) a0 a1 a2 a3) := by
 intro a0 a1 a2 a3 k
 have ih0 := insolvencylaw33_built.mono_l k
 unfold insolvencylaw33_built.f
 repeat' first
   | (with_reducible exact ih0 _ _ _ _ _ _ _)
   | (with_reducible exact insolvencylaw0_Terms.mono _ _ _ _)
   | (with_reducible exact law0_Matters.mono _ _)
   | (with_reducible exact ref_File.mono _ _ _ _ _ _ _ _ _ _)
   | (with_reducible exact LeO.refl _)
   | (with_reducible exact LeO.none _)
   | (with_reducible refine LeO.ite ?_ ?_)
   | (with_reducible refine LeO.bind ?_ (fun _ => ?_))
   | exact ih0 _ _ _ _ _ _ _
   | exact insolvencylaw0_Terms.mono _ _ _ _
   | exact law0_Matters.mono _ _
   | exact ref_File.mono _ _ _ _ _ _ _ _ _ _
   | exact LeO.none _
   | refine LeO.ite ?_ ?_
   | refine LeO.bind ?_ (fun _ => ?_)
structure BSt (w W : World) (gO gZ : Nat) (d a p : Int) (v3 v4 v7 : Value) (hs : List Int) (ms : List S50) (fl : List S47) : Prop where
  b : Below w.heap.size w W
  o : W.heap[gO]? = some (.cells #[.int .i64 d, .int .i64 a, .int .i64 p, v3, v4] 30 (0, 0))
  z : W.heap[gZ]? = some (.cells #[.int .i64 0, .int .i64 0, .int .i64 0, .slice none 0 0, .slice none 0 0] 30 (0, 0))
  r3 : Kd.R (Kd.int .i64) 3 W w.heap.size (fun _ => True) v3 hs
  r4 : Kd.R k50 50 W w.heap.size (fun _ => True) v4 ms
  r7 : Kd.R k47 47 W w.heap.size (fun _ => True) v7 fl
theorem BSt.below {w W W' : World} {gO gZ : Nat} {d a p : Int} {v3 v4 v7 : Value} {hs : List Int} {ms : List S50} {fl : List S47} (h : BSt w W gO gZ d a p v3 v4 v7 hs ms fl) (hb : Below W.heap.size W W') : BSt w W' gO gZ d a p v3 v4 v7 hs ms fl :=
  ⟨below_step h.b hb, blk_below h.o hb, blk_below h.z hb, Kd.R_below h.r3 hb, Kd.R_below h.r4 hb, Kd.R_below h.r7 hb⟩
theorem BSt.turn {w W : World} {gO gZ : Nat} {d a p d' a' p' : Int} {v3 v4 v7 v3' v4' : Value} {hs hs' : List Int} {ms ms' : List S50} {fl : List S47} (h : BSt w W gO gZ d a p v3 v4 v7 hs ms fl) (hO : w.heap.size ≤ gO) (hn : gZ ≠ gO)
    (h3 : Kd.R (Kd.int .i64) 3 W w.heap.size (fun _ => True) v3' hs') (h4 : Kd.R k50 50 W w.heap.size (fun _ => True) v4' ms') : BSt w (five W gO (.int .i64 d') (.int .i64 a') (.int .i64 p') v3' v4') gO gZ d' a' p' v3' v4' v7 hs' ms' fl :=
  ⟨five_below h.b hO _ _ _ _ _, five_blk h.o _ _ _ _ _, by
      unfold five
      exact blk_far (p := ⟨gO, 4, none⟩) (blk_far (p := ⟨gO, 3, none⟩) (blk_far (p := ⟨gO, 2, none⟩) (blk_far (p := ⟨gO, 1, none⟩) (blk_far (p := ⟨gO, 0, none⟩) h.z hn _) hn _) hn _) hn _) hn _,
    five_R h3 h.o (by decide) _ _ _ _ _, five_R h4 h.o (by decide) _ _ _ _ _, five_R h.r7 h.o (by decide) _ _ _ _ _⟩
theorem BSt.other {w W : World} {gO gZ gN : Nat} {d a p : Int} {v3 v4 v7 : Value} {hs : List Int} {ms : List S50} {fl : List S47} {y0 y1 y2 y3 y4 : Value} (h : BSt w W gO gZ d a p v3 v4 v7 hs ms fl) (hN : W.heap[gN]? = some (.cells #[y0, y1, y2, y3, y4] 30 (0, 0))) (h1 : gO ≠ gN) (h2 : gZ ≠ gN) (h3 : w.heap.size ≤ gN) (x0 x1 x2 x3 x4 : Value) :
    BSt w (five W gN x0 x1 x2 x3 x4) gO gZ d a p v3 v4 v7 hs ms fl := by
  refine ⟨five_below h.b h3 _ _ _ _ _, ?_, ?_, five_R h.r3 hN (by decide) _ _ _ _ _, five_R h.r4 hN (by decide) _ _ _ _ _, five_R h.r7 hN (by decide) _ _ _ _ _⟩
  · unfold five
    exact blk_far (p := ⟨gN, 4, none⟩) (blk_far (p := ⟨gN, 3, none⟩) (blk_far (p := ⟨gN, 2, none⟩) (blk_far (p := ⟨gN, 1, none⟩) (blk_far (p := ⟨gN, 0, none⟩) h.o h1 _) h1 _) h1 _) h1 _) h1 _
  · unfold five
    exact blk_far (p := ⟨gN, 4, none⟩) (blk_far (p := ⟨gN, 3, none⟩) (blk_far (p := ⟨gN, 2, none⟩) (blk_far (p := ⟨gN, 1, none⟩) (blk_far (p := ⟨gN, 0, none⟩) h.z h2 _) h2 _) h2 _) h2 _) h2 _
theorem elmF {e base g n cap : Nat} {ok : Nat → Prop} {W : World} {xs : List S47} (h : Kd.R k47 e W base ok (.slice (some ⟨g, 0, none⟩) n cap) xs) (i : Int) (h0 : 0 ≤ i) (h1 : i < n) (m : S47) (hm : rd_T47 xs i = m) :
    W.cell? ⟨g, i.toNat * 4, none⟩ = some (.int .i64 m.f0) ∧ W.cell? ⟨g, i.toNat * 4 + 1, none⟩ = some (.int .i64 m.f1) ∧ W.cell? ⟨g, i.toNat * 4 + 2, none⟩ = some (.int .i64 m.f2) ∧ W.cell? ⟨g, i.toNat * 4 + 3, none⟩ = some (.int .i64 m.f3) := by
  obtain ⟨ce, hcl, hM, hcc, hfr⟩ := Kd.R_elem h z47 i h0 h1
  obtain rfl := k47_openM hM
  subst hm
  exact ⟨hcc 0 _ rfl, hcc 1 _ rfl, hcc 2 _ rfl, hcc 3 _ rfl⟩
def bldWorld (w : World) (x y : Int) : World :=
  (w.alloc (.cells #[.int .u8 x, .int .u8 y] 22 (0, 0))).alloc (.cells #[.int .i64 0, .int .i64 0, .int .i64 0, .slice none 0 0, .slice none 0 0] 30 (0, 0))
theorem bldW_below (w : World) (x y : Int) : Below w.heap.size w (bldWorld w x y) := by
  unfold bldWorld
  exact below_alloc (below_alloc (Below.refl _ _) _) _
theorem bldW_res (w : World) (x y : Int) : (bldWorld w x y).heap[w.heap.size + 1]? = some (.cells #[.int .i64 0, .int .i64 0, .int .i64 0, .slice none 0 0, .slice none 0 0] 30 (0, 0)) := by
  have := blk_new (w.alloc (.cells #[.int .u8 x, .int .u8 y] 22 (0, 0))) (.cells #[.int .i64 0, .int .i64 0, .int .i64 0, .slice none 0 0, .slice none 0 0] 30 (0, 0))
  simpa [bldWorld] using this
set_option maxHeartbeats 16000000 in
set_option maxRecDepth 100000 in
theorem insolvencylaw33_built.calls (k : Nat) (a0_0 : Int) (a0_1 : Int) (A1 : Option Addr) (c1 : Nat) (l1 : List Int) (A2 : Option Addr) (c2 : Nat) (l2 : List S83) (r1 : Int) (r2 : Int) (r3 : Int) (r4 : List Int) (r5 : List S50) (w : World) (hr1 : Kd.C (Kd.int .u16) w A1 l1.length l1) (hc1 : l1.length ≤ c1) (hr2 : Kd.C k83 w A2 l2.length l2) (hc2 : l2.length ≤ c2) (h : insolvencylaw33_built.f k a0_0 a0_1 l1 l2 = some (r1, r2, r3, r4, r5)) :
    Calls Try.prog 12 #[.agg #[.int .u8 a0_0, .int .u8 a0_1], .slice A1 l1.length c1, .slice A2 l2.length c2] w fun e w' => ∃ v3_ v4_ : Value, e = .returned (.agg #[.int .i64 r1, .int .i64 r2, .int .i64 r3, v3_, v4_]) ∧ Kd.R (Kd.int .i64) 3 w' w.heap.size (fun _ => True) v3_ r4 ∧ Kd.R k50 50 w' w.heap.size (fun _ => True) v4_ r5 ∧ Below w.heap.size w w' := by
  have hu := Try.underlying30
  have hu2 := Try.underlying47
  have hu3 := Try.underlying43
  have hu4 := Try.underlying22
  unfold insolvencylaw33_built.f at h
  obtain ⟨⟨t1, t2, t3⟩, hT, h⟩ := Option.bind_eq_some_iff.mp h
  obtain ⟨⟨n1, n2, n3, n4, n5, n6⟩, hN, h⟩ := Option.bind_eq_some_iff.mp h
  obtain ⟨fl, hM, h⟩ := Option.bind_eq_some_iff.mp h
  have I0 : insolvencylaw33_built.l0 k fl 0 n1 n2 n3 n4 n5 = some (r1, r2, r3, r4, r5) := h
  clear h
  have B0 := bldW_below w a0_0 a0_1
  have K0 := bldW_res w a0_0 a0_1
  have hcT := insolvencylaw0_Terms.calls k a0_0 a0_1 A1 c1 l1 t1 t2 t3 _ (Kd.C_below hr1 B0) hc1 hT
  have hcM := fun W (hW : Below w.heap.size w W) => law0_Matters.calls k A2 c2 l2 fl W (Kd.C_below hr2 hW) hc2 hM
  have HI := Aside0.mk I0
  clear hr1 hr2 I0 hT hM
  go_enter Try.func12, Try.ntmps12
  go_upto_region 2 with (first | (go_at_call 18; change Calls _ _ _ (bldWorld w a0_0 a0_1) _; refine hcT.mono ?_; rintro e w1 ⟨v, rfl, hv, hb1⟩; obtain ⟨A3, c3, rfl⟩ := Kd.R_slice hv; have hC3 := (Kd.R_reads' hv).2; have hcN := insolvencyref33_NewDocket.calls 0 t1 t2 A3 c3 t3 n1 n2 n3 n4 n5 n6 w1 hC3.2 hC3.1 hN) | (go_at_call 22; refine hcN.mono ?_; rintro e w2 ⟨v3, v4, rfl, hv3, hv4, hb2⟩; obtain ⟨A4, c4, rfl⟩ := Kd.R_slice hv3; obtain ⟨A5, c5, rfl⟩ := Kd.R_slice hv4))
  have BO : Below w.heap.size w w2 := below_step (below_step B0 hb1) hb2
  have KZ := blk_alloc (blk_below (blk_below K0 hb1) hb2) (.cells #[.int .i64 n1, .int .i64 n2, .int .i64 n3, .slice A4 n4.length c4, .slice A5 n5.length c5] 30 (0, 0))
  have KO := blk_new w2 (.cells #[.int .i64 n1, .int .i64 n2, .int .i64 n3, .slice A4 n4.length c4, .slice A5 n5.length c5] 30 (0, 0))
  have BO2 := below_alloc BO (.cells #[.int .i64 n1, .int .i64 n2, .int .i64 n3, .slice A4 n4.length c4, .slice A5 n5.length c5] 30 (0, 0))
  have Q3 := Kd.R_alloc (Kd.R_lower hv3 (below_step B0 hb1).size) (.cells #[.int .i64 n1, .int .i64 n2, .int .i64 n3, .slice A4 n4.length c4, .slice A5 n5.length c5] 30 (0, 0))
  have Q4 := Kd.R_alloc (Kd.R_lower hv4 (below_step B0 hb1).size) (.cells #[.int .i64 n1, .int .i64 n2, .int .i64 n3, .slice A4 n4.length c4, .slice A5 n5.length c5] 30 (0, 0))
  have gO0 : w.heap.size ≤ w2.heap.size := BO.size
  have gZ0 : w.heap.size ≤ w.heap.size + 1 := Nat.le_succ _
  have nZ : w.heap.size + 1 ≠ w2.heap.size := Nat.ne_of_lt (blk_lt (blk_below (blk_below K0 hb1) hb2))
  generalize w2.alloc (.cells #[.int .i64 n1, .int .i64 n2, .int .i64 n3, .slice A4 n4.length c4, .slice A5 n5.length c5] 30 (0, 0)) = W3 at *
  generalize w2.heap.size = gO at *
  generalize w.heap.size + 1 = gZ at *
  clear B0 K0 hcT hb1 hb2 BO hv hv3 hv4 hC3 hcN hN
  go_wp2_with (go_at_call 19; refine (hcM _ BO2).mono ?_; rintro e w4 ⟨v7, rfl, hv7, hb4⟩; obtain ⟨A7, c7, rfl⟩ := Kd.R_slice hv7)
  have S0 : BSt w w4 gO gZ n1 n2 n3 (.slice A4 n4.length c4) (.slice A5 n5.length c5) (.slice A7 fl.length c7) n4 n5 fl :=
    ⟨below_step BO2 hb4, blk_below KO hb4, blk_below KZ hb4, Kd.R_below Q3 hb4, Kd.R_below Q4 hb4, Kd.R_lower hv7 BO2.size⟩
  have SS := Aside0.mk S0
  clear S0 KZ KO BO2 Q3 Q4 hcM hv7 hb4
  go_loopg [10] k (fun kx s10 wr => ∃ (x d a p : Int) (hs : List Int) (ms : List S50) (v3 v4 : Value), s10 = .int .i64 x ∧ Aside0 (insolvencylaw33_built.l0 kx fl x d a p hs ms = some (r1, r2, r3, r4, r5)) ∧ Aside0 (BSt w wr gO gZ d a p v3 v4 (.slice A7 fl.length c7) hs ms fl))
  case atStart => exact ⟨0, n1, n2, n3, n4, n5, _, _, rfl, HI, SS⟩
  case round =>
    obtain ⟨x, d, a, p, hs, ms, v3, v4, rfl, HI2, S⟩ := hrel
    clear HI SS
    obtain ⟨k1, rfl⟩ : ∃ m, gk = m + 1 := by
      cases gk with
      | zero => have := HI2.out; cases this
      | succ m => exact ⟨m, rfl⟩
    have I := HI2.out
    rw [insolvencylaw33_built.l0] at I
    clear HI2
    obtain ⟨B3, d3, rfl⟩ := Kd.R_slice S.out.r3
    obtain ⟨B4, d4, rfl⟩ := Kd.R_slice S.out.r4
    obtain ⟨o0, o1, o2, o3, o4⟩ := cells5 ⟨S.out.o⟩
    by_cases hlt : x < (fl.length : Int)
    · rw [if_pos hlt] at I
      by_cases h0 : 0 ≤ x
      case neg => rw [if_neg h0] at I; cases I
      rw [if_pos h0] at I
      have hd : decide (x < (fl.length : Int)) = true := decide_eq_true hlt
      obtain ⟨g7, c7', eq7, -, hg7, -⟩ := Kd.R_form S.out.r7 (by omega)
      injection eq7 with e7 e8 e9
      subst e7
      clear e8 e9 c7'
      generalize hy : rd_T47 fl x = y at *
      obtain ⟨f0, f1, f2, f3⟩ := elmF S.out.r7 x h0 hlt y hy
      have p1 : (0 ≤ x) = True := eq_true h0
      have p2 : (x < (fl.length : Int)) = True := eq_true hlt
      obtain ⟨⟨s1, s2, s3, s4, s5, s6, s7⟩, hF, I2⟩ := Option.bind_eq_some_iff.mp I
      have hcal : ∀ W, Below wr.heap.size wr W → Calls Try.prog 28 #[.agg #[.int .i64 d, .int .i64 a, .int .i64 p, .slice B3 hs.length d3, .slice B4 ms.length d4], .agg #[.int .i64 y.f0, .int .i64 y.f1, .int .i64 y.f2, .int .i64 y.f3]] W fun e w' => ∃ u3 u4 u5 : Value, e = .returned (.tuple #[.agg #[.int .i64 s1, .int .i64 s2, .int .i64 s3, u3, u4], u5, .int .i64 s7]) ∧
          Kd.R (Kd.int .i64) 3 w' w.heap.size (fun _ => True) u3 s4 ∧ Kd.R k50 50 w' w.heap.size (fun _ => True) u4 s5 ∧ Kd.R k52 52 w' w.heap.size (fun _ => True) u5 s6 ∧ Below wr.heap.size wr w' ∧ Below W.heap.size W w' := by
        intro W hW
        refine (ref_File.calls k1 d a p B3 d3 hs B4 d4 ms y.f0 y.f1 y.f2 y.f3 s1 s2 s3 s4 s5 s6 s7 W (Kd.C_below (Kd.R_reads' S.out.r3).2.2 hW) (Kd.R_reads' S.out.r3).2.1 (Kd.C_below (Kd.R_reads' S.out.r4).2.2 hW) (Kd.R_reads' S.out.r4).2.1 hF).mono ?_
        rintro e w' ⟨u3, u4, u5, he, q1, q2, q3, hb⟩
        have hs' : w.heap.size ≤ W.heap.size := Nat.le_trans S.out.b.size hW.size
        exact ⟨u3, u4, u5, he, Kd.R_lower q1 hs', Kd.R_lower q2 hs', Kd.R_lower q3 hs', below_step hW hb, hb⟩
      have I3 := Aside0.mk I2
      clear I I2 hF hy h0 hlt
      dsimp only at I3
      go_wp2_with (fail)
      obtain ⟨u0, u1, u2, u3', u4', u5', u6', u7', u8'⟩ : wr.drew.cell? ⟨gO, 0, none⟩ = some (.int .i64 d) ∧ wr.drew.cell? ⟨gO, 1, none⟩ = some (.int .i64 a) ∧ wr.drew.cell? ⟨gO, 2, none⟩ = some (.int .i64 p) ∧ wr.drew.cell? ⟨gO, 3, none⟩ = some (.slice B3 hs.length d3) ∧ wr.drew.cell? ⟨gO, 4, none⟩ = some (.slice B4 ms.length d4) ∧ wr.drew.cell? ⟨g7, x.toNat * 4, none⟩ = some (.int .i64 y.f0) ∧ wr.drew.cell? ⟨g7, x.toNat * 4 + 1, none⟩ = some (.int .i64 y.f1) ∧ wr.drew.cell? ⟨g7, x.toNat * 4 + 2, none⟩ = some (.int .i64 y.f2) ∧ wr.drew.cell? ⟨g7, x.toNat * 4 + 3, none⟩ = some (.int .i64 y.f3) := ⟨o0, o1, o2, o3, o4, f0, f1, f2, f3⟩
      have nn1 := World.new_ne wr _ o0
      have nn2 := World.new_ne wr _ f0
      go_region_held3 (fun w_ => (w_.cell? ⟨gO, 0, none⟩ = some (.int .i64 d) ∧ w_.cell? ⟨gO, 1, none⟩ = some (.int .i64 a) ∧ w_.cell? ⟨gO, 2, none⟩ = some (.int .i64 p) ∧ w_.cell? ⟨gO, 3, none⟩ = some (.slice B3 hs.length d3) ∧ w_.cell? ⟨gO, 4, none⟩ = some (.slice B4 ms.length d4)) ∧ w_.cell? ⟨g7, x.toNat * 4, none⟩ = some (.int .i64 y.f0) ∧ w_.cell? ⟨g7, x.toNat * 4 + 1, none⟩ = some (.int .i64 y.f1) ∧ w_.cell? ⟨g7, x.toNat * 4 + 2, none⟩ = some (.int .i64 y.f2) ∧ w_.cell? ⟨g7, x.toNat * 4 + 3, none⟩ = some (.int .i64 y.f3)) (first | (with_reducible exact ⟨⟨o0, o1, o2, o3, o4⟩, f0, f1, f2, f3⟩) | (with_reducible exact ⟨⟨u0, u1, u2, u3', u4'⟩, u5', u6', u7', u8'⟩) | (with_reducible exact ⟨⟨o0', o1', o2', o3', o4'⟩, f0', f1', f2', f3'⟩) | go_keep)
        (first | (go_at_call 28; refine (hcal _ (by repeat (first | exact Below.refl _ _ | apply below_drew1 | apply below_alloc | apply pw_below_drewN))).mono ?_; rintro e w5 ⟨u3, u4, u5, rfl, hu3', hu4', hu5', hb5, hbW⟩; obtain ⟨D3, q3, rfl⟩ := Kd.R_slice hu3'; obtain ⟨D4, q4, rfl⟩ := Kd.R_slice hu4'; obtain ⟨D5, q5, rfl⟩ := Kd.R_slice hu5'; have o0' := pw_cell_below hb5 o0; have o1' := pw_cell_below hb5 o1; have o2' := pw_cell_below hb5 o2; have o3' := pw_cell_below hb5 o3; have o4' := pw_cell_below hb5 o4; have f0' := pw_cell_below hb5 f0; have f1' := pw_cell_below hb5 f1; have f2' := pw_cell_below hb5 f2; have f3' := pw_cell_below hb5 f3; have nn3 := World.new_ne w5 _ o0'; have nn4 := World.new_ne w5 _ f0'; try (have KN : w5.heap[wr.heap.size]? = some (.cells #[.int .i64 0, .int .i64 0, .int .i64 0, .slice none 0 0, .slice none 0 0] 30 (0, 0)) := blk_below (w := (wr.alloc (.cells #[.int .i64 0, .int .i64 0, .int .i64 0, .slice none 0 0, .slice none 0 0] 30 (0, 0))).drew) (blk_drew (blk_new wr _)) (by with_reducible exact hbW); obtain ⟨z0, z1, z2, z3, z4⟩ := cells5 ⟨KN⟩; obtain ⟨x0, x1, x2, x3, x4⟩ := frz5 ⟨KN⟩)))
      all_goals have S5 := S.out.below hb5
      all_goals have gO1 := blk_lt S.out.o
      all_goals have gZ1 := blk_lt S.out.z
      all_goals have gO2 := blk_lt S5.o
      all_goals have gZ2 := blk_lt S5.z
      all_goals have gw := S.out.b.size
      all_goals first
        | (change Exit.then _ _ _ _ (five w5 wr.heap.size (.int .i64 s1) (.int .i64 s2) (.int .i64 s3) (.slice D3 s4.length q3) (.slice D4 s5.length q4))
           have S6 := S5.other KN (by omega) (by omega) gw (.int .i64 s1) (.int .i64 s2) (.int .i64 s3) (.slice D3 s4.length q3) (.slice D4 s5.length q4)
           have KN6 := five_blk KN (.int .i64 s1) (.int .i64 s2) (.int .i64 s3) (.slice D3 s4.length q3) (.slice D4 s5.length q4)
           have T3 := five_R hu3' KN (by decide) (.int .i64 s1) (.int .i64 s2) (.int .i64 s3) (.slice D3 s4.length q3) (.slice D4 s5.length q4)
           have T4 := five_R hu4' KN (by decide) (.int .i64 s1) (.int .i64 s2) (.int .i64 s3) (.slice D3 s4.length q3) (.slice D4 s5.length q4)
           generalize five w5 wr.heap.size (.int .i64 s1) (.int .i64 s2) (.int .i64 s3) (.slice D3 s4.length q3) (.slice D4 s5.length q4) = W6 at *
           generalize wr.heap.size = gN at *)
        | (change Exit.then _ _ _ _ (w5.alloc (.cells #[.int .i64 s1, .int .i64 s2, .int .i64 s3, .slice D3 s4.length q3, .slice D4 s5.length q4] 30 (0, 0)))
           have S6 := S5.below (below_alloc (Below.refl w5.heap.size w5) (.cells #[.int .i64 s1, .int .i64 s2, .int .i64 s3, .slice D3 s4.length q3, .slice D4 s5.length q4] 30 (0, 0)))
           have KN6 := blk_new w5 (.cells #[.int .i64 s1, .int .i64 s2, .int .i64 s3, .slice D3 s4.length q3, .slice D4 s5.length q4] 30 (0, 0))
           have T3 := Kd.R_alloc hu3' (.cells #[.int .i64 s1, .int .i64 s2, .int .i64 s3, .slice D3 s4.length q3, .slice D4 s5.length q4] 30 (0, 0))
           have T4 := Kd.R_alloc hu4' (.cells #[.int .i64 s1, .int .i64 s2, .int .i64 s3, .slice D3 s4.length q3, .slice D4 s5.length q4] 30 (0, 0))
           generalize w5.alloc (.cells #[.int .i64 s1, .int .i64 s2, .int .i64 s3, .slice D3 s4.length q3, .slice D4 s5.length q4] 30 (0, 0)) = W6 at *
           generalize w5.heap.size = gN at *)
      all_goals clear o0 o1 o2 o3 o4 f0 f1 f2 f3 o0' o1' o2' o3' o4' f0' f1' f2' f3' u0 u1 u2 u3' u4' u5' u6' u7' u8' nn1 nn2 nn3 nn4 gO1 gZ1 gO2 gZ2 gw hb5 hbW hu3' hu4' hu5' S5 S hcal
      all_goals try clear z0 z1 z2 z3 z4 x0 x1 x2 x3 x4 KN
      all_goals obtain ⟨n0', n1', n2', n3', n4'⟩ := cells5 ⟨KN6⟩
      all_goals obtain ⟨o0, o1, o2, o3, o4⟩ := cells5 ⟨S6.o⟩
      all_goals obtain ⟨x0, x1, x2, x3, x4⟩ := frz5 ⟨S6.o⟩
      all_goals have S7 := S6.turn (d' := s1) (a' := s2) (p' := s3) gO0 nZ T3 T4
      all_goals have HS6 := Aside0.mk S6
      all_goals have HS7 := Aside0.mk S7
      all_goals clear S6 S7 T3 T4 KN6
      all_goals have HIO := I3.out
      all_goals by_cases he : s7 = 0
      all_goals first
        | (rw [if_pos he] at HIO
           have HI4 := Aside0.mk HIO
           have he2 : (s7 == 0) = true := by simpa using he
           clear HIO I3
           go_wp2
           go_roundg k1
           case measure => omega
           case rel => exact ⟨_, s1, s2, s3, s4, s5, _, _, rfl, HI4, HS7⟩)
        | (rw [if_neg he] at HIO
           have HI4 := Aside0.mk HIO
           have he2 : (s7 == 0) = false := by simpa using he
           clear HIO I3
           go_wp2
           go_roundg k1
           case measure => omega
           case rel => exact ⟨_, d, a, p, hs, ms, _, _, rfl, HI4, HS6⟩)
    · rw [if_neg hlt] at I
      have hd : decide (x < (fl.length : Int)) = false := decide_eq_false hlt
      have I2 := Option.some.inj I
      injection I2 with i1 I2
      injection I2 with i2 I2
      injection I2 with i3 I2
      injection I2 with i4 i5
      subst i1 i2 i3 i4 i5
      obtain ⟨z0, z1, z2, z3, z4⟩ := cells5 ⟨S.out.z⟩
      obtain ⟨x0, x1, x2, x3, x4⟩ := frz5 ⟨S.out.z⟩
      go_wp2
      refine bodyPost_ret (results_cell_row rfl _ _ gZ 30 _ (0, 0) _ rfl (five_blk S.out.z _ _ _ _ _) Try.underlying30 rfl (by kernel_rfl)) rfl ?_
      exact ⟨_, _, rfl, five_R S.out.r3 S.out.z (by decide) _ _ _ _ _, five_R S.out.r4 S.out.z (by decide) _ _ _ _ _, five_below S.out.b gZ0 _ _ _ _ _⟩
end Go.Proofs.Ytpfiecjacpbhkaa.D

namespace Go.Proofs.Ytpfiecjacpbhkaa.D
open Go.RowKit Go.Proofs.YtpfiecjacpbhkaaW.PrintWords Go.Proofs.YtpfiecjacpbhkaaW.PrintLast Go.Proofs.YtpfiecjacpbhkaaW.PrintMore
attribute [local go_sem] max2_int min2_int max_two min_two max_three min_three max_four min_four
set_option linter.unusedVariables false
set_option linter.unusedSimpArgs false
def insolvencylaw33_few.f (a0_0 : Int) (a0_1 : Int) (a0_2 : Int) (l0_3 : List Int) (l0_4 : List (S50)) : Option (Bool) := if (l0_3.length : Int) ≤ 12 then (some (decide ((l0_4.length : Int) ≤ 10))) else (some false)
set_option maxHeartbeats 8000000 in
set_option maxRecDepth 100000 in
theorem insolvencylaw33_few.calls (a0_0 : Int) (a0_1 : Int) (a0_2 : Int) (A0_3 : Option Addr) (c0_3 : Nat) (l0_3 : List Int) (A0_4 : Option Addr) (c0_4 : Nat) (l0_4 : List (S50)) (r : Bool) (w : World) (hr0_3 : Kd.C (Kd.int .i64) w A0_3 l0_3.length l0_3) (hc0_3 : l0_3.length ≤ c0_3) (hr0_4 : Kd.C k50 w A0_4 l0_4.length l0_4) (hc0_4 : l0_4.length ≤ c0_4) (h : insolvencylaw33_few.f a0_0 a0_1 a0_2 l0_3 l0_4 = some r) :
  Calls Try.prog 23 #[.agg #[.int .i64 a0_0, .int .i64 a0_1, .int .i64 a0_2, .slice A0_3 l0_3.length c0_3, .slice A0_4 l0_4.length c0_4]] w fun e w' => e = .returned (.bool r) ∧ Below w.heap.size w w' := by
 have hu30 := Try.underlying30
 have HR0_3 := Aside0.mk hr0_3
 have HC0_3 := Aside0.mk hc0_3
 clear hr0_3 hc0_3
 have HR0_4 := Aside0.mk hr0_4
 have HC0_4 := Aside0.mk hc0_4
 clear hr0_4 hc0_4
 have HB := Aside0.mk (Below.refl w.heap.size w)
 have H : (if (l0_3.length : Int) ≤ 12 then (some (decide ((l0_4.length : Int) ≤ 10))) else (some false)) = some r := h
 clear h
 by_cases c2 : (l0_3.length : Int) ≤ 12
 ·rw [if_pos c2] at H
  have c2b0 : decide ((l0_3.length : Int) ≤ 12) = true := decide_eq_true c2
  have c2b1 : decide (l0_3.length ≤ 12) = true := decide_eq_true (by omega)
  clear c2
  obtain rfl := Option.some.inj H
  go_enter Try.func23, Try.ntmps23
  go_wp2_with (first | ((with_reducible refine gate_dst (N := 1) rfl ?_); (try (refine gate_guard (by rfl) ?_; dsimp only)); refine box_event ?hg (N := 1) ?hd (cs := #[.int .i64 a0_0, .int .i64 a0_1, .int .i64 a0_2, .slice A0_3 l0_3.length c0_3, .slice A0_4 l0_4.length c0_4]) (t := 30) ?hr ?_; (case hd => rfl); (case hg => rfl); (case hr => first | (go_simp; done) | (go_simp; rfl)); intro gb357 hg w3 hbox hb; have BK357 := Aside0.mk (hbox); have GW357 := gS HB hg; have GE357 := gS HB hg; replace HB := Aside0.mk (below_step (pB HB) hb); clear hb hbox hg; obtain ⟨hcz4_0, hcz4_1, hcz4_2, hcz4_3, hcz4_4⟩ := cells5 BK357; obtain ⟨hfz4_0, hfz4_1, hfz4_2, hfz4_3, hfz4_4⟩ := frz5 BK357))
  go_ret
  exact ⟨by first | rfl | (simp [errW_none, errW_some] <;> rfl) | (simp [*, errW_none, errW_some] <;> rfl), pB HB⟩
 ·rw [if_neg c2] at H
  have c2b0 : decide ((l0_3.length : Int) ≤ 12) = false := decide_eq_false c2
  have c2b1 : decide (l0_3.length ≤ 12) = false := decide_eq_false (by omega)
  clear c2
  obtain rfl := Option.some.inj H
  go_enter Try.func23, Try.ntmps23
  go_wp2_with (first | ((with_reducible refine gate_dst (N := 1) rfl ?_); (try (refine gate_guard (by rfl) ?_; dsimp only)); refine box_event ?hg (N := 1) ?hd (cs := #[.int .i64 a0_0, .int .i64 a0_1, .int .i64 a0_2, .slice A0_3 l0_3.length c0_3, .slice A0_4 l0_4.length c0_4]) (t := 30) ?hr ?_; (case hd => rfl); (case hg => rfl); (case hr => first | (go_simp; done) | (go_simp; rfl)); intro gb357 hg w5 hbox hb; have BK357 := Aside0.mk (hbox); have GW357 := gS HB hg; have GE357 := gS HB hg; replace HB := Aside0.mk (below_step (pB HB) hb); clear hb hbox hg; obtain ⟨hcz6_0, hcz6_1, hcz6_2, hcz6_3, hcz6_4⟩ := cells5 BK357; obtain ⟨hfz6_0, hfz6_1, hfz6_2, hfz6_3, hfz6_4⟩ := frz5 BK357))
  go_ret
  exact ⟨by first | rfl | (simp [errW_none, errW_some] <;> rfl) | (simp [*, errW_none, errW_some] <;> rfl), pB HB⟩
end Go.Proofs.Ytpfiecjacpbhkaa.D

namespace Go.Proofs.Ytpfiecjacpbhkaa.D
open Go.RowKit Go.Proofs.YtpfiecjacpbhkaaW.PrintWords Go.Proofs.YtpfiecjacpbhkaaW.PrintLast Go.Proofs.YtpfiecjacpbhkaaW.PrintMore
set_option linter.unusedVariables false
set_option linter.unusedSimpArgs false
def dcM (q d x : Int) (m : S50) : S50 :=
  if q = 0 then ⟨-1, m.f1, m.f2, m.f3, m.f4⟩ else if q = 1 then ⟨x, m.f1, m.f2, m.f3, m.f4⟩ else if q = 2 then ⟨m.f0, 7, m.f2, m.f3, m.f4⟩
  else if q = 3 then ⟨m.f0, wrap64 (Int.tmod m.f1 6 + 1), m.f2, m.f3, m.f4⟩ else if q = 4 then ⟨m.f0, m.f1, wrap64 (d - 1), m.f3, m.f4⟩
  else if q = 5 then ⟨m.f0, m.f1, wrap64 (m.f2 + 1), m.f3, m.f4⟩ else if q = 6 then ⟨m.f0, m.f1, m.f2, 4, m.f4⟩ else if q = 7 then ⟨m.f0, m.f1, m.f2, 1, m.f4⟩
  else ⟨m.f0, m.f1, m.f2, m.f3, !m.f4⟩
def dcL (q d i : Int) (ms : List S50) : List S50 := if 0 ≤ q ∧ q < 9 then ms.set i.toNat (dcM q d (rd_T50 ms 0).f0 (rd_T50 ms i)) else ms
def dcIx (a4 : Int) (ms : List S50) : Int := Int.tmod (wrap64 a4) (ms.length : Int)
def insolvencylaw33_DocketCheck.tail (k : Nat) (x0 x1 x2 : Int) (x3 : List Int) (x4 : List S50) (y0 y1 y2 : Int) (y3 : List Int) (y4 : List S50) : Option Bool :=
  (insolvencylaw33_awake.f k).bind fun t399 => (if t399 = true then ((docket_Check.f k y0 y1 y2 y3 y4).bind fun t400 => ((insolvencyref33_CheckDocket.f k y0 y1 y2 y3 y4).bind fun t401 => (if t400 = t401 then ((docket_Check.f k x0 x1 x2 x3 x4).bind fun t402 => ((insolvencyref33_CheckDocket.f k x0 x1 x2 x3 x4).bind fun t403 => (some (t402 == t403)))) else (none)))) else (none))
def insolvencylaw33_DocketCheck.f (k : Nat) (a0_0 : Int) (a0_1 : Int) (a0_2 : Int) (l0_3 : List Int) (l0_4 : List S50) (a1_0 : Int) (a1_1 : Int) (l2 : List Int) (l3 : List S83) (a4 : Int) (a5 : Int) : Option Bool :=
  (insolvencylaw33_few.f a0_0 a0_1 a0_2 l0_3 l0_4).bind fun t => if t = true then ((insolvencylaw33_built.f k a1_0 a1_1 l2 l3).bind fun b =>
    if 0 < (b.2.2.2.2.length : Int) then (if 0 ≤ dcIx a4 b.2.2.2.2 ∧ dcIx a4 b.2.2.2.2 < (b.2.2.2.2.length : Int) then insolvencylaw33_DocketCheck.tail k a0_0 a0_1 a0_2 l0_3 l0_4 b.1 (if Int.tmod a5 12 = 9 then 0 else b.2.1) b.2.2.1 b.2.2.2.1 (dcL (Int.tmod a5 12) b.1 (dcIx a4 b.2.2.2.2) b.2.2.2.2) else none)
    else insolvencylaw33_DocketCheck.tail k a0_0 a0_1 a0_2 l0_3 l0_4 b.1 b.2.1 b.2.2.1 b.2.2.2.1 b.2.2.2.2) else insolvencylaw33_awake.f k
def insolvencylaw33_DocketCheck.T27 : Bool × List (List Nat × List Nat) := (true, [([], []), ([0, 0], [0]), ([1], [1]), ([2, 1, 1], [1, 2]), ([1], [1]), ([4, 3, 1], [1, 4]), ([3, 5, 1], [1, 3, 5]), ([1, 6], [1, 6]), ([7, 5], [7]), ([8], [8]), ([9, 8, 8], [8, 9]), ([8], [8]), ([11, 10, 8], [8, 11]), ([10, 12, 8], [8, 10, 12]), ([8, 13], [8, 13]), ([14, 12, 0, 1, 2, 3, 4, 5, 6, 7, 8, 9, 10, 11, 12, 13, 14], [14])])
def insolvencylaw33_DocketCheck.B27 : List Nat := [0, 1, 3, 7, 3, 31, 63, 127, 255, 511, 1023, 511, 4095, 8191, 16383, 32767]
theorem insolvencylaw33_DocketCheck.tab27 : rtab .any (opsOf Try.f6 27) = insolvencylaw33_DocketCheck.T27 := by kernel_rfl
theorem insolvencylaw33_DocketCheck.bits27 : waitsOk insolvencylaw33_DocketCheck.T27.2 insolvencylaw33_DocketCheck.B27 = true := by kernel_rfl
structure CSt (w W : World) (g0 gD : Nat) (raw : Array Value) (d a p : Int) (v3 v4 : Value) (hs : List Int) (ms : List S50) : Prop where
  b : Below w.heap.size w W
  r : W.heap[g0]? = some (.cells raw 30 (0, 0))
  o : W.heap[gD]? = some (.cells #[.int .i64 d, .int .i64 a, .int .i64 p, v3, v4] 30 (0, 0))
  r3 : Kd.R (Kd.int .i64) 3 W w.heap.size (fun _ => True) v3 hs
  r4 : Kd.R k50 50 W w.heap.size (fun _ => True) v4 ms
variable {w W : World} {g0 gD : Nat} {raw : Array Value} {d a p : Int} {v3 v4 : Value} {hs : List Int} {ms : List S50}
theorem CSt.below {W' : World} (h : CSt w W g0 gD raw d a p v3 v4 hs ms) (hb : Below W.heap.size W W') : CSt w W' g0 gD raw d a p v3 v4 hs ms :=
  ⟨below_step h.b hb, blk_below h.r hb, blk_below h.o hb, Kd.R_below h.r3 hb, Kd.R_below h.r4 hb⟩
theorem CSt.elt {g j n c : Nat} {x : Value} {ms' : List S50} (h : CSt w W g0 gD raw d a p v3 (.slice (some ⟨g, 0, none⟩) n c) hs ms) (hg : w.heap.size ≤ g)
    (hp : Kd.R k50 50 (W.setCell ⟨g, j, none⟩ x) w.heap.size (fun _ => True) (.slice (some ⟨g, 0, none⟩) n c) ms' ∧ W.grownBy (W.setCell ⟨g, j, none⟩ x) (some g)) : CSt w (W.setCell ⟨g, j, none⟩ x) g0 gD raw d a p v3 (.slice (some ⟨g, 0, none⟩) n c) hs ms' :=
  ⟨below_set h.b hg, blk_grown h.r hp.2 (Kd.R_ne h.r4 h.r (by decide)), blk_grown h.o hp.2 (Kd.R_ne h.r4 h.o (by decide)),
    Kd.R_over' (v := .slice (some ⟨g, 0, none⟩) n c) h.r3 (Kd.R_typed h.r4) (by decide) hp.2, hp.1⟩
theorem CSt.ans (h : CSt w W g0 gD raw d a p v3 v4 hs ms) (hg : w.heap.size ≤ gD) (hn : g0 ≠ gD) (y : Int) : CSt w (W.setCell ⟨gD, 1, none⟩ (.int .i64 y)) g0 gD raw d y p v3 v4 hs ms :=
  ⟨below_set h.b hg, blk_far (p := ⟨gD, 1, none⟩) h.r hn _, blk_put h.o 1 _ rfl, Kd.R_set h.r3 h.o (by decide) 1 _, Kd.R_set h.r4 h.o (by decide) 1 _⟩
section
variable {e base g n cap : Nat} {ok : Nat → Prop} {xs : List S50}
theorem put0 (h : Kd.R k50 e W base ok (.slice (some ⟨g, 0, none⟩) n cap) xs) (i : Int) (h0 : 0 ≤ i) (h1 : i < n) (m : S50) (hm : rd_T50 xs i = m) (x : Int) :
    Kd.R k50 e (W.setCell ⟨g, i.toNat * 5, none⟩ (.int .i64 x)) base ok (.slice (some ⟨g, 0, none⟩) n cap) (xs.set i.toNat ⟨x, m.f1, m.f2, m.f3, m.f4⟩) ∧ W.grownBy (W.setCell ⟨g, i.toNat * 5, none⟩ (.int .i64 x)) (some g) := by
  obtain ⟨ce, hcl, hM, hcc, hfr⟩ := Kd.R_elem h z50 i h0 h1
  obtain rfl := k50_openM hM
  change rd_T50 xs i = m at hm
  have := Kd.R_seg h i h0 h1 (seg := [.int .i64 x]) (j := 0) hcl hcc (show 1 ≤ 5 from by decide) (x' := (⟨x, m.f1, m.f2, m.f3, m.f4⟩ : S50)) (by rw [← hm]; exact k50_mkM _ _ _ _) (fun _ hk => hk)
  exact this
theorem elmA (h : Kd.R k50 e W base ok (.slice (some ⟨g, 0, none⟩) n cap) xs) (i : Int) (h0 : 0 ≤ i) (h1 : i < n) (m : S50) (hm : rd_T50 xs i = m) :
    (W.cell? ⟨g, i.toNat * 5, none⟩ = some (.int .i64 m.f0) ∧ W.cell? ⟨g, i.toNat * 5 + 1, none⟩ = some (.int .i64 m.f1) ∧ W.cell? ⟨g, i.toNat * 5 + 2, none⟩ = some (.int .i64 m.f2) ∧ W.cell? ⟨g, i.toNat * 5 + 3, none⟩ = some (.int .i64 m.f3) ∧ W.cell? ⟨g, i.toNat * 5 + 4, none⟩ = some (.bool m.f4)) ∧
    W.frozen? ⟨g, i.toNat * 5, none⟩ = false ∧ W.frozen? ⟨g, i.toNat * 5 + 1, none⟩ = false ∧ W.frozen? ⟨g, i.toNat * 5 + 2, none⟩ = false ∧ W.frozen? ⟨g, i.toNat * 5 + 3, none⟩ = false ∧ W.frozen? ⟨g, i.toNat * 5 + 4, none⟩ = false := by
  obtain ⟨ce, hcl, hM, hcc, hfr⟩ := Kd.R_elem h z50 i h0 h1
  obtain rfl := k50_openM hM
  subst hm
  exact ⟨⟨hcc 0 _ rfl, hcc 1 _ rfl, hcc 2 _ rfl, hcc 3 _ rfl, hcc 4 _ rfl⟩, hfr 0, hfr 1, hfr 2, hfr 3, hfr 4⟩
end
theorem dcTen (q : Int) : q = 0 ∨ q = 1 ∨ q = 2 ∨ q = 3 ∨ q = 4 ∨ q = 5 ∨ q = 6 ∨ q = 7 ∨ q = 8 ∨ q = 9 ∨ (q ≠ 9 ∧ ¬ (0 ≤ q ∧ q < 9)) := by omega
def dcWorld (w : World) (raw : Array Value) (x y : Int) : World := (w.alloc (.cells raw 30 (0, 0))).alloc (.cells #[.int .u8 x, .int .u8 y] 22 (0, 0))
theorem dcW_below (w : World) (raw : Array Value) (x y : Int) : Below w.heap.size w (dcWorld w raw x y) := by
  unfold dcWorld
  exact below_alloc (below_alloc (Below.refl _ _) _) _
theorem dcW_raw (w : World) (raw : Array Value) (x y : Int) : (dcWorld w raw x y).heap[w.heap.size]? = some (.cells raw 30 (0, 0)) := blk_alloc (blk_new w _) _
theorem dcW_arr (w : World) (raw : Array Value) (x y : Int) : (dcWorld w raw x y).heap[w.heap.size + 1]? = some (.cells #[.int .u8 x, .int .u8 y] 22 (0, 0)) := by
  have := blk_new (w.alloc (.cells raw 30 (0, 0))) (.cells #[.int .u8 x, .int .u8 y] 22 (0, 0))
  simpa [dcWorld] using this
set_option maxHeartbeats 16000000 in
set_option maxRecDepth 100000 in
theorem insolvencylaw33_DocketCheck.calls (k : Nat) (a0_0 : Int) (a0_1 : Int) (a0_2 : Int) (A0_3 : Option Addr) (c0_3 : Nat) (l0_3 : List Int) (A0_4 : Option Addr) (c0_4 : Nat) (l0_4 : List S50) (a1_0 : Int) (a1_1 : Int) (A2 : Option Addr) (c2 : Nat) (l2 : List Int) (A3 : Option Addr) (c3 : Nat) (l3 : List S83) (a4 : Int) (a5 : Int) (r : Bool) (w : World) (hr0_3 : Kd.C (Kd.int .i64) w A0_3 l0_3.length l0_3) (hc0_3 : l0_3.length ≤ c0_3) (hr0_4 : Kd.C k50 w A0_4 l0_4.length l0_4) (hc0_4 : l0_4.length ≤ c0_4) (hr2 : Kd.C (Kd.int .u16) w A2 l2.length l2) (hc2 : l2.length ≤ c2) (hr3 : Kd.C k83 w A3 l3.length l3) (hc3 : l3.length ≤ c3) (h : insolvencylaw33_DocketCheck.f k a0_0 a0_1 a0_2 l0_3 l0_4 a1_0 a1_1 l2 l3 a4 a5 = some r) :
    Calls Try.prog 6 #[.agg #[.int .i64 a0_0, .int .i64 a0_1, .int .i64 a0_2, .slice A0_3 l0_3.length c0_3, .slice A0_4 l0_4.length c0_4], .agg #[.int .u8 a1_0, .int .u8 a1_1], .slice A2 l2.length c2, .slice A3 l3.length c3, .int .u8 a4, .int .u8 a5] w fun e w' => e = .returned (.bool r) ∧ Below w.heap.size w w' := by
  have hu30 := Try.underlying30
  have hu22 := Try.underlying22
  have hu28 := Try.underlying28
  unfold insolvencylaw33_DocketCheck.f at h
  obtain ⟨t, hF, h⟩ := Option.bind_eq_some_iff.mp h
  have B0 := dcW_below w #[.int .i64 a0_0, .int .i64 a0_1, .int .i64 a0_2, .slice A0_3 l0_3.length c0_3, .slice A0_4 l0_4.length c0_4] a1_0 a1_1
  have K0 := dcW_raw w #[.int .i64 a0_0, .int .i64 a0_1, .int .i64 a0_2, .slice A0_3 l0_3.length c0_3, .slice A0_4 l0_4.length c0_4] a1_0 a1_1
  have K1 := dcW_arr w #[.int .i64 a0_0, .int .i64 a0_1, .int .i64 a0_2, .slice A0_3 l0_3.length c0_3, .slice A0_4 l0_4.length c0_4] a1_0 a1_1
  have hcF := insolvencylaw33_few.calls a0_0 a0_1 a0_2 A0_3 c0_3 l0_3 A0_4 c0_4 l0_4 t _ (Kd.C_below hr0_3 B0) hc0_3 (Kd.C_below hr0_4 B0) hc0_4 hF
  have HR0_3 := Aside0.mk hr0_3
  have HC0_3 := Aside0.mk hc0_3
  have HR0_4 := Aside0.mk hr0_4
  have HC0_4 := Aside0.mk hc0_4
  clear hr0_3 hc0_3 hr0_4 hc0_4 hF
  have HH := Aside0.mk h
  clear h
  go_enter Try.func6, Try.ntmps6
  cases t
  · have h := HH.out
    rw [if_neg (by decide)] at h
    clear HH
    go_wp2_with (first | (go_at_call 23; change Calls _ _ _ (dcWorld w _ a1_0 a1_1) _; refine hcF.mono ?_; rintro e w1 ⟨rfl, hb1⟩) | (go_at_call 14; refine (insolvencylaw33_awake.calls k r w1 h).mono ?_; rintro e w2 ⟨rfl, hb2⟩))
    go_ret
    exact ⟨rfl, below_step (below_step B0 hb1) hb2⟩
  have h := HH.out
  rw [if_pos rfl] at h
  clear HH
  obtain ⟨⟨t375, t376, t377, t378, t381⟩, hB, h⟩ := Option.bind_eq_some_iff.mp h
  have HI := Aside0.mk h
  clear h
  have hcB := fun W (hW : Below w.heap.size w W) => insolvencylaw33_built.calls k a1_0 a1_1 A2 c2 l2 A3 c3 l3 t375 t376 t377 t378 t381 W (Kd.C_below hr2 hW) hc2 (Kd.C_below hr3 hW) hc3 hB
  clear hr2 hr3 hB
  go_upto_if 26 with (first | (go_at_call 23; change Calls _ _ _ (dcWorld w _ a1_0 a1_1) _; refine hcF.mono ?_; rintro e w1 ⟨rfl, hb1⟩; have b0 := (blk_cell (blk_below K1 hb1) 0).trans rfl; have b1 := (blk_cell (blk_below K1 hb1) 1).trans rfl) | (go_at_call 12; refine (hcB w1 (below_step B0 hb1)).mono ?_; rintro e w2 ⟨v3, v4, rfl, hv3, hv4, hb2⟩; obtain ⟨Ao22, co22, rfl⟩ := Kd.R_slice hv3; obtain ⟨A5, c5, rfl⟩ := Kd.R_slice hv4))
  have KR := blk_alloc (blk_below (blk_below K0 hb1) hb2) (.cells #[.int .i64 t375, .int .i64 t376, .int .i64 t377, .slice Ao22 t378.length co22, .slice A5 t381.length c5] 30 (0, 0))
  have gD0 : w.heap.size ≤ w2.heap.size := (below_step (below_step B0 hb1) hb2).size
  have gN : w.heap.size ≠ w2.heap.size := Nat.ne_of_lt (blk_lt (blk_below (blk_below K0 hb1) hb2))
  have SS : CSt w (w2.alloc (.cells #[.int .i64 t375, .int .i64 t376, .int .i64 t377, .slice Ao22 t378.length co22, .slice A5 t381.length c5] 30 (0, 0))) w.heap.size w2.heap.size #[.int .i64 a0_0, .int .i64 a0_1, .int .i64 a0_2, .slice A0_3 l0_3.length c0_3, .slice A0_4 l0_4.length c0_4] t375 t376 t377 (.slice Ao22 t378.length co22) (.slice A5 t381.length c5) t378 t381 :=
    ⟨below_alloc (below_step (below_step B0 hb1) hb2) _, KR, blk_new w2 _, Kd.R_alloc (Kd.R_lower hv3 (below_step B0 hb1).size) _, Kd.R_alloc (Kd.R_lower hv4 (below_step B0 hb1).size) _⟩
  generalize w2.alloc (.cells #[.int .i64 t375, .int .i64 t376, .int .i64 t377, .slice Ao22 t378.length co22, .slice A5 t381.length c5] 30 (0, 0)) = W3 at *
  generalize w2.heap.size = gb384 at *
  have S := Aside0.mk SS
  clear KR SS hv3 hv4 hb1 hb2 b0 b1 hcF hcB B0 K0 K1
  go_cut [] (fun wc => ∃ (x385001_9 : Int) (x385004_9 : List S50) (u385004 : Value), Aside0 (insolvencylaw33_DocketCheck.tail k a0_0 a0_1 a0_2 l0_3 l0_4 t375 x385001_9 t377 t378 x385004_9 = some r) ∧ Aside0 (CSt w wc w.heap.size gb384 #[.int .i64 a0_0, .int .i64 a0_1, .int .i64 a0_2, .slice A0_3 l0_3.length c0_3, .slice A0_4 l0_4.length c0_4] t375 x385001_9 t377 (.slice Ao22 t378.length co22) u385004 t378 x385004_9))
  case first =>
    have I := HI.out
    clear HI HR0_3 HC0_3 HR0_4 HC0_4
    by_cases hl : 0 < (t381.length : Int)
    case neg =>
      rw [if_neg hl] at I
      have HI := Aside0.mk I
      have hd : decide (0 < (t381.length : Int)) = false := decide_eq_false hl
      clear I
      go_wp2
      go_meet
      case rel => exact ⟨_, _, _, HI, S⟩
    rw [if_pos hl] at I
    by_cases hx : 0 ≤ dcIx a4 t381 ∧ dcIx a4 t381 < (t381.length : Int)
    case neg => rw [if_neg hx] at I; cases I
    rw [if_pos hx] at I
    obtain ⟨j, hj⟩ : ∃ j, Int.tmod (wrap64 a4) (t381.length : Int) = j := ⟨_, rfl⟩
    change 0 ≤ Int.tmod (wrap64 a4) (t381.length : Int) ∧ Int.tmod (wrap64 a4) (t381.length : Int) < (t381.length : Int) at hx
    rw [show dcIx a4 t381 = j from hj] at I
    rw [hj] at hx
    have HI := Aside0.mk I
    clear I
    have hd : decide (0 < (t381.length : Int)) = true := decide_eq_true hl
    have hd2 : ((t381.length : Int) == 0) = false := beq_eq_false_iff_ne.mpr (by omega)
    have hd3 : ¬ (t381 = []) := by rintro rfl; simp at hl
    obtain ⟨g4, c4', eq4, hg4, -, -⟩ := Kd.R_form S.out.r4 (by omega)
    injection eq4 with e7 e8 e9
    subst e7
    clear e8 e9 c4'
    have p1 : (0 ≤ j) = True := eq_true hx.1
    have p2 : (j < (t381.length : Int)) = True := eq_true hx.2
    have hj2 : Int.tmod (IntKind.i64.wrap a4) (t381.length : Int) = j := by rw [i64_w]; exact hj
    obtain ⟨o0, o1, o2, o3, o4⟩ := cells5 ⟨S.out.o⟩
    obtain ⟨x0, x1, x2, x3, x4⟩ := frz5 ⟨S.out.o⟩
    go_wp2_with (fail)
    have o4' : W3.drew.cell? ⟨gb384, 4, none⟩ = some (.slice (some ⟨g4, 0, none⟩) t381.length c5) := o4
    go_region_held3 (fun w_ => w_.cell? ⟨gb384, 4, none⟩ = some (.slice (some ⟨g4, 0, none⟩) t381.length c5)) (first | (with_reducible exact o4) | (with_reducible exact o4') | go_keep) (fail)
    have S2 := Aside0.mk (S.out.below (below_drew1 (Below.refl W3.heap.size W3)))
    generalize W3.drew = W4 at *
    clear o0 o1 o2 o3 o4 x0 x1 x2 x3 x4 o4' S
    go_upto_if 38 with (fail)
    generalize Int.tmod a5 12 = q at *
    generalize hm : rd_T50 t381 j = m at *
    obtain ⟨⟨f0, f1, f2, f3, f4⟩, y0, y1, y2, y3, y4⟩ := elmA S2.out.r4 j hx.1 hx.2 m hm
    have fz : W4.cell? ⟨g4, 0, none⟩ = some (.int .i64 (rd_T50 t381 0).f0) := (elmA S2.out.r4 0 (Int.le_refl 0) hl _ rfl).1.1
    obtain ⟨o0, o1, o2, o3, o4⟩ := cells5 ⟨S2.out.o⟩
    obtain ⟨x0, x1, x2, x3, x4⟩ := frz5 ⟨S2.out.o⟩
    have p3 : (0 < (t381.length : Int)) = True := eq_true hl
    clear hj hj2
    rcases dcTen q with rfl | rfl | rfl | rfl | rfl | rfl | rfl | rfl | rfl | rfl | hq
    · have I := HI.out
      simp [dcL, dcM, hm] at I
      have HJ := Aside0.mk I
      clear I HI
      go_wp2
      go_meet
      case rel => exact ⟨_, _, _, HJ, ⟨S2.out.elt hg4 (put0 S2.out.r4 j hx.1 hx.2 m hm (-1))⟩⟩
    · have I := HI.out
      simp [dcL, dcM, hm] at I
      have HJ := Aside0.mk I
      clear I HI
      go_wp2
      go_meet
      case rel => exact ⟨_, _, _, HJ, ⟨S2.out.elt hg4 (put0 S2.out.r4 j hx.1 hx.2 m hm (rd_T50 t381 0).f0)⟩⟩
    · have I := HI.out
      simp [dcL, dcM, hm] at I
      have HJ := Aside0.mk I
      clear I HI
      go_wp2
      go_meet
      case rel => exact ⟨_, _, _, HJ, ⟨S2.out.elt hg4 (put1 S2.out.r4 j hx.1 hx.2 m hm 7)⟩⟩
    · have I := HI.out
      simp [dcL, dcM, hm] at I
      have HJ := Aside0.mk I
      clear I HI
      go_wp2
      go_meet
      case rel => exact ⟨_, _, _, HJ, ⟨S2.out.elt hg4 (put1 S2.out.r4 j hx.1 hx.2 m hm (wrap64 (Int.tmod m.f1 6 + 1)))⟩⟩
    · have I := HI.out
      simp [dcL, dcM, hm] at I
      have HJ := Aside0.mk I
      clear I HI
      go_wp2
      go_meet
      case rel => exact ⟨_, _, _, HJ, ⟨S2.out.elt hg4 (put2 S2.out.r4 j hx.1 hx.2 m hm (wrap64 (t375 - 1)))⟩⟩
    · have I := HI.out
      simp [dcL, dcM, hm] at I
      have HJ := Aside0.mk I
      clear I HI
      go_wp2
      go_meet
      case rel => exact ⟨_, _, _, HJ, ⟨S2.out.elt hg4 (put2 S2.out.r4 j hx.1 hx.2 m hm (wrap64 (m.f2 + 1)))⟩⟩
    · have I := HI.out
      simp [dcL, dcM, hm] at I
      have HJ := Aside0.mk I
      clear I HI
      go_wp2
      go_meet
      case rel => exact ⟨_, _, _, HJ, ⟨S2.out.elt hg4 (put3 S2.out.r4 j hx.1 hx.2 m hm 4)⟩⟩
    · have I := HI.out
      simp [dcL, dcM, hm] at I
      have HJ := Aside0.mk I
      clear I HI
      go_wp2
      go_meet
      case rel => exact ⟨_, _, _, HJ, ⟨S2.out.elt hg4 (put3 S2.out.r4 j hx.1 hx.2 m hm 1)⟩⟩
    · have I := HI.out
      simp [dcL, dcM, hm] at I
      have HJ := Aside0.mk I
      clear I HI
      go_wp2
      go_meet
      case rel => exact ⟨_, _, _, HJ, ⟨S2.out.elt hg4 (put4 S2.out.r4 j hx.1 hx.2 m hm (!m.f4))⟩⟩
    · have I := HI.out
      simp [dcL, dcM, hm] at I
      have HJ := Aside0.mk I
      clear I HI
      go_wp2
      go_meet
      case rel => exact ⟨_, _, _, HJ, ⟨S2.out.ans gD0 gN 0⟩⟩
    · have I := HI.out
      rw [if_neg hq.1, dcL, if_neg hq.2] at I
      have HJ := Aside0.mk I
      clear I HI
      have e0 : (q == 0) = false := beq_eq_false_iff_ne.mpr (by omega)
      have e1 : (q == 1) = false := beq_eq_false_iff_ne.mpr (by omega)
      have e2 : (q == 2) = false := beq_eq_false_iff_ne.mpr (by omega)
      have e3 : (q == 3) = false := beq_eq_false_iff_ne.mpr (by omega)
      have e4 : (q == 4) = false := beq_eq_false_iff_ne.mpr (by omega)
      have e5 : (q == 5) = false := beq_eq_false_iff_ne.mpr (by omega)
      have e6 : (q == 6) = false := beq_eq_false_iff_ne.mpr (by omega)
      have e7 : (q == 7) = false := beq_eq_false_iff_ne.mpr (by omega)
      have e8 : (q == 8) = false := beq_eq_false_iff_ne.mpr (by omega)
      have e9 : (q == 9) = false := beq_eq_false_iff_ne.mpr (by omega)
      clear hq
      go_wp2
      go_meet
      case rel => exact ⟨_, _, _, HJ, S2⟩
  case rest =>
    clear HI S
    obtain ⟨x385001_9, x385004_9, u385004, HA, HS⟩ := hcut
    have H := HA.out
    clear HA
    unfold insolvencylaw33_DocketCheck.tail at H
    obtain ⟨t399, A98, H⟩ := Option.bind_eq_some_iff.mp H
    cases t399
    case false => rw [if_neg (by decide)] at H; cases H
    rw [if_pos rfl] at H
    obtain ⟨t400, A100, H⟩ := Option.bind_eq_some_iff.mp H
    obtain ⟨t401, A101, H⟩ := Option.bind_eq_some_iff.mp H
    by_cases c102 : t400 = t401
    case neg => rw [if_neg c102] at H; cases H
    rw [if_pos c102] at H
    have c102b0 : (t400 == t401) = true := beq_iff_eq.mpr c102
    clear c102
    obtain ⟨t402, A103, H⟩ := Option.bind_eq_some_iff.mp H
    obtain ⟨t403, A104, H⟩ := Option.bind_eq_some_iff.mp H
    obtain rfl := Option.some.inj H
    clear H
    replace A98 := Aside0.mk A98
    replace A100 := Aside0.mk A100
    replace A101 := Aside0.mk A101
    replace A103 := Aside0.mk A103
    replace A104 := Aside0.mk A104
    go_wp2
    have HO_385003 := Aside0.mk (Kd.R_drew HS.out.r3)
    have HO_385004 := Aside0.mk (Kd.R_drew HS.out.r4)
    have BK371 := Aside0.mk (blk_drew HS.out.r)
    have BK384 := Aside0.mk (blk_drew HS.out.o)
    have HB := Aside0.mk (below_drew1 HS.out.b)
    clear HS
    refine start_ (n := 16) (S := fun w' => w'.cell? ⟨gb384, 0, none⟩ = some (.int .i64 t375) ∧ w'.cell? ⟨gb384, 1, none⟩ = some (.int .i64 x385001_9) ∧ w'.cell? ⟨gb384, 2, none⟩ = some (.int .i64 t377) ∧ w'.cell? ⟨gb384, 3, none⟩ = some (.slice Ao22 t378.length co22) ∧ w'.cell? ⟨gb384, 4, none⟩ = some (u385004) ∧ w'.cell? ⟨w.heap.size, 0, none⟩ = some (.int .i64 a0_0) ∧ w'.cell? ⟨w.heap.size, 1, none⟩ = some (.int .i64 a0_1) ∧ w'.cell? ⟨w.heap.size, 2, none⟩ = some (.int .i64 a0_2) ∧ w'.cell? ⟨w.heap.size, 3, none⟩ = some (.slice A0_3 l0_3.length c0_3) ∧ w'.cell? ⟨w.heap.size, 4, none⟩ = some (.slice A0_4 l0_4.length c0_4)) (ds := []) #[false,false,false,false,false,false,false,false,false,false,false,false,false,false,false,false] (by kernel_rfl) rfl rfl ⟨(blk_cell BK384.out 0).trans rfl, (blk_cell BK384.out 1).trans rfl, (blk_cell BK384.out 2).trans rfl, (blk_cell BK384.out 3).trans rfl, (blk_cell BK384.out 4).trans rfl, (blk_cell BK371.out 0).trans rfl, (blk_cell BK371.out 1).trans rfl, (blk_cell BK371.out 2).trans rfl, (blk_cell BK371.out 3).trans rfl, (blk_cell BK371.out 4).trans rfl⟩ (fun hHeld => ?_); refine with_tabW insolvencylaw33_DocketCheck.tab27 insolvencylaw33_DocketCheck.bits27 (fun HT_ HW_ => ?_)
    refine one_ (i := 0) (N := some 111) #[true,false,false,false,false,false,false,false,false,false,false,false,false,false,false,false] rfl rfl (one_of HT_.out (by kernel_rfl)) (by decide) (fun K hK => ?_)
    refine goes_ Try.func14 (by kernel_rfl) rfl #[] (by rfl) rfl rfl (by (try simp only [List.map_toArray, List.map_cons, List.map_nil]); first | done | rfl | (simp only [List.length_drop, List.length_take]; rfl)) ?_
    with_reducible refine (insolvencylaw33_awake.calls k  true _ A98.out).mono ?_
    rintro e w106 ⟨rfl, hb⟩
    refine ⟨_, rfl, ?_⟩
    replace HO_385003 := rB HO_385003 hb
    replace HO_385004 := rB HO_385004 hb
    replace BK371 := bB BK371 hb
    replace BK384 := bB BK384 hb
    replace HB := Aside0.mk (below_step (pB HB) hb)
    (try clear hb)
    (try clear hb2)
    (try clear hk)
    (try clear hi)
    obtain ⟨Ao107, co107, eo107⟩ := Kd.R_slice HO_385004.out
    (first | subst eo107 | (injection eo107 with f1_ f2_ f3_; have f4_ := f1_.symm; have f5_ := f3_.symm; clear f1_ f2_ f3_; subst f4_; subst f5_))
    refine hK.out _ _ ⟨(blk_cell BK384.out 0).trans rfl, (blk_cell BK384.out 1).trans rfl, (blk_cell BK384.out 2).trans rfl, (blk_cell BK384.out 3).trans rfl, (blk_cell BK384.out 4).trans rfl, (blk_cell BK371.out 0).trans rfl, (blk_cell BK371.out 1).trans rfl, (blk_cell BK371.out 2).trans rfl, (blk_cell BK371.out 3).trans rfl, (blk_cell BK371.out 4).trans rfl⟩ (fun hHeld => ?_)
    clear hK K
    refine norm_ (a' := ?_) ?_ ?_
    rotate_left
    ·show Act.put _ (some 111) _ = _
     simp only [Act.put,sT,sZ,sU,i64_w,i32_w]
     rfl
    refine pure_ (i := 1) (N := some 112) (v := ?_) (a' := ?_) #[true,true,false,false,false,false,false,false,false,false,false,false,false,false,false,false] rfl rfl (any_of HT_.out (by kernel_rfl)) (fun _ _ _ h => h) (Or.inl ⟨by rfl, ?_⟩) ?_ ?_
    rotate_left
    ·intro w'
     go_simp
     with_reducible rfl
    rotate_left
    ·simp only [Act.put,sT,sZ,sU,i64_w,i32_w]
     rfl
    refine take_ (i := 2) (N := some 113) (v := ?_) (a' := ?_) #[true,true,true,false,false,false,false,false,false,false,false,false,false,false,false,false] rfl rfl (take_ofW HT_.out HW_.out (by kernel_rfl)) (fun _ _ _ h => h) (Or.inl ⟨by rfl, ?_⟩) hHeld ?_ ?_
    rotate_left
    ·rintro w' ⟨s0, s1, s2, s3, s4, s5, s6, s7, s8, s9⟩
     go_simp
     with_reducible rfl
    rotate_left
    ·simp only [Act.put,sT,sZ,sU,i64_w,i32_w]
     rfl
    refine take_ (i := 4) (N := some 115) (v := ?_) (a' := ?_) #[true,true,true,false,true,false,false,false,false,false,false,false,false,false,false,false] rfl rfl (take_ofW HT_.out HW_.out (by kernel_rfl)) (fun _ _ _ h => h) (Or.inl ⟨by rfl, ?_⟩) hHeld ?_ ?_
    rotate_left
    ·rintro w' ⟨s0, s1, s2, s3, s4, s5, s6, s7, s8, s9⟩
     go_simp
     with_reducible rfl
    rotate_left
    ·simp only [Act.put,sT,sZ,sU,i64_w,i32_w]
     rfl
    refine one_ (i := 3) (N := some 114) #[true,true,true,true,true,false,false,false,false,false,false,false,false,false,false,false] rfl rfl (one_of HT_.out (by kernel_rfl)) (by decide) (fun K hK => ?_)
    refine goes_ Try.func21 (by kernel_rfl) rfl #[.agg #[.int .i64 t375, .int .i64 x385001_9, .int .i64 t377, .slice Ao22 t378.length co22, .slice Ao107 x385004_9.length co107]] (by rfl) rfl rfl (by (try simp only [List.map_toArray, List.map_cons, List.map_nil]); first | done | rfl | (simp only [List.length_drop, List.length_take]; rfl)) ?_
    with_reducible refine (docket_Check.calls k t375 x385001_9 t377 _ _ t378 _ _ x385004_9 t400 _ ?side1 ?side2 ?side3 ?side4 A100.out).mono ?_
    (case side1 => repeat (first | exact (Kd.R_reads' HO_385003.out).2.2 | (with_reducible refine Kd.C_alloc ?_ _) | (with_reducible refine Kd.C_drewN ?_ _) | (with_reducible refine Kd.C_drew ?_)))
    (case side2 => exact (Kd.R_reads' HO_385003.out).2.1)
    (case side3 => repeat (first | exact (Kd.R_reads' HO_385004.out).2.2 | (with_reducible refine Kd.C_alloc ?_ _) | (with_reducible refine Kd.C_drewN ?_ _) | (with_reducible refine Kd.C_drew ?_)))
    (case side4 => exact (Kd.R_reads' HO_385004.out).2.1)
    rintro e w108 ⟨rfl, hb⟩
    refine ⟨_, rfl, ?_⟩
    replace HO_385003 := rB HO_385003 hb
    replace HO_385004 := rB HO_385004 hb
    replace BK371 := bB BK371 hb
    replace BK384 := bB BK384 hb
    replace HB := Aside0.mk (below_step (pB HB) hb)
    (try clear hb)
    (try clear hb2)
    (try clear hk)
    (try clear hi)
    refine hK.out _ _ ⟨(blk_cell BK384.out 0).trans rfl, (blk_cell BK384.out 1).trans rfl, (blk_cell BK384.out 2).trans rfl, (blk_cell BK384.out 3).trans rfl, (blk_cell BK384.out 4).trans rfl, (blk_cell BK371.out 0).trans rfl, (blk_cell BK371.out 1).trans rfl, (blk_cell BK371.out 2).trans rfl, (blk_cell BK371.out 3).trans rfl, (blk_cell BK371.out 4).trans rfl⟩ (fun hHeld => ?_)
    clear hK K
    refine norm_ (a' := ?_) ?_ ?_
    rotate_left
    ·show Act.put _ (some 114) _ = _
     simp only [Act.put,sT,sZ,sU,i64_w,i32_w]
     rfl
    refine one_ (i := 5) (N := some 116) #[true,true,true,true,true,true,false,false,false,false,false,false,false,false,false,false] rfl rfl (one_of HT_.out (by kernel_rfl)) (by decide) (fun K hK => ?_)
    refine goes_ Try.func24 (by kernel_rfl) rfl #[.agg #[.int .i64 t375, .int .i64 x385001_9, .int .i64 t377, .slice Ao22 t378.length co22, .slice Ao107 x385004_9.length co107]] (by rfl) rfl rfl (by (try simp only [List.map_toArray, List.map_cons, List.map_nil]); first | done | rfl | (simp only [List.length_drop, List.length_take]; rfl)) ?_
    with_reducible refine (insolvencyref33_CheckDocket.calls k t375 x385001_9 t377 _ _ t378 _ _ x385004_9 t401 _ ?side1 ?side2 ?side3 ?side4 A101.out).mono ?_
    (case side1 => repeat (first | exact (Kd.R_reads' HO_385003.out).2.2 | (with_reducible refine Kd.C_alloc ?_ _) | (with_reducible refine Kd.C_drewN ?_ _) | (with_reducible refine Kd.C_drew ?_)))
    (case side2 => exact (Kd.R_reads' HO_385003.out).2.1)
    (case side3 => repeat (first | exact (Kd.R_reads' HO_385004.out).2.2 | (with_reducible refine Kd.C_alloc ?_ _) | (with_reducible refine Kd.C_drewN ?_ _) | (with_reducible refine Kd.C_drew ?_)))
    (case side4 => exact (Kd.R_reads' HO_385004.out).2.1)
    rintro e w109 ⟨rfl, hb⟩
    refine ⟨_, rfl, ?_⟩
    replace HO_385003 := rB HO_385003 hb
    replace HO_385004 := rB HO_385004 hb
    replace BK371 := bB BK371 hb
    replace BK384 := bB BK384 hb
    replace HB := Aside0.mk (below_step (pB HB) hb)
    (try clear hb)
    (try clear hb2)
    (try clear hk)
    (try clear hi)
    refine hK.out _ _ ⟨(blk_cell BK384.out 0).trans rfl, (blk_cell BK384.out 1).trans rfl, (blk_cell BK384.out 2).trans rfl, (blk_cell BK384.out 3).trans rfl, (blk_cell BK384.out 4).trans rfl, (blk_cell BK371.out 0).trans rfl, (blk_cell BK371.out 1).trans rfl, (blk_cell BK371.out 2).trans rfl, (blk_cell BK371.out 3).trans rfl, (blk_cell BK371.out 4).trans rfl⟩ (fun hHeld => ?_)
    clear hK K
    refine norm_ (a' := ?_) ?_ ?_
    rotate_left
    ·show Act.put _ (some 116) _ = _
     simp only [Act.put,sT,sZ,sU,i64_w,i32_w]
     rfl
    refine pure_ (i := 6) (N := some 117) (v := ?_) (a' := ?_) #[true,true,true,true,true,true,true,false,false,false,false,false,false,false,false,false] rfl rfl (any_of HT_.out (by kernel_rfl)) (fun _ _ _ h => h) (Or.inl ⟨by rfl, ?_⟩) ?_ ?_
    rotate_left
    ·intro w'
     go_simp
     with_reducible rfl
    rotate_left
    ·simp only [Act.put,sT,sZ,sU,i64_w,i32_w]
     rfl
    refine pure_ (i := 7) (N := some 118) (v := ?_) (a' := ?_) #[true,true,true,true,true,true,true,true,false,false,false,false,false,false,false,false] rfl rfl (any_of HT_.out (by kernel_rfl)) (fun _ _ _ h => h) (Or.inl ⟨by rfl, ?_⟩) ?_ ?_
    rotate_left
    ·intro w'
     go_simp
     with_reducible rfl
    rotate_left
    ·simp only [Act.put,sT,sZ,sU,i64_w,i32_w]
     rfl
    refine pure_ (i := 8) (N := some 119) (v := ?_) (a' := ?_) #[true,true,true,true,true,true,true,true,true,false,false,false,false,false,false,false] rfl rfl (any_of HT_.out (by kernel_rfl)) (fun _ _ _ h => h) (Or.inl ⟨by rfl, ?_⟩) ?_ ?_
    rotate_left
    ·intro w'
     go_simp
     with_reducible rfl
    rotate_left
    ·simp only [Act.put,sT,sZ,sU,i64_w,i32_w]
     rfl
    refine take_ (i := 9) (N := some 120) (v := ?_) (a' := ?_) #[true,true,true,true,true,true,true,true,true,true,false,false,false,false,false,false] rfl rfl (take_ofW HT_.out HW_.out (by kernel_rfl)) (fun _ _ _ h => h) (Or.inl ⟨by rfl, ?_⟩) hHeld ?_ ?_
    rotate_left
    ·rintro w' ⟨s0, s1, s2, s3, s4, s5, s6, s7, s8, s9⟩
     go_simp
     with_reducible rfl
    rotate_left
    ·simp only [Act.put,sT,sZ,sU,i64_w,i32_w]
     rfl
    refine take_ (i := 11) (N := some 122) (v := ?_) (a' := ?_) #[true,true,true,true,true,true,true,true,true,true,false,true,false,false,false,false] rfl rfl (take_ofW HT_.out HW_.out (by kernel_rfl)) (fun _ _ _ h => h) (Or.inl ⟨by rfl, ?_⟩) hHeld ?_ ?_
    rotate_left
    ·rintro w' ⟨s0, s1, s2, s3, s4, s5, s6, s7, s8, s9⟩
     go_simp
     with_reducible rfl
    rotate_left
    ·simp only [Act.put,sT,sZ,sU,i64_w,i32_w]
     rfl
    refine one_ (i := 10) (N := some 121) #[true,true,true,true,true,true,true,true,true,true,true,true,false,false,false,false] rfl rfl (one_of HT_.out (by kernel_rfl)) (by decide) (fun K hK => ?_)
    refine goes_ Try.func21 (by kernel_rfl) rfl #[.agg #[.int .i64 a0_0, .int .i64 a0_1, .int .i64 a0_2, .slice A0_3 l0_3.length c0_3, .slice A0_4 l0_4.length c0_4]] (by rfl) rfl rfl (by (try simp only [List.map_toArray, List.map_cons, List.map_nil]); first | done | rfl | (simp only [List.length_drop, List.length_take]; rfl)) ?_
    with_reducible refine (docket_Check.calls k a0_0 a0_1 a0_2 _ _ l0_3 _ _ l0_4 t402 _ ?side1 ?side2 ?side3 ?side4 A103.out).mono ?_
    (case side1 => exact cB HR0_3 HB)
    (case side2 => exact HC0_3.out)
    (case side3 => exact cB HR0_4 HB)
    (case side4 => exact HC0_4.out)
    rintro e w110 ⟨rfl, hb⟩
    refine ⟨_, rfl, ?_⟩
    replace HO_385003 := rB HO_385003 hb
    replace HO_385004 := rB HO_385004 hb
    replace BK371 := bB BK371 hb
    replace BK384 := bB BK384 hb
    replace HB := Aside0.mk (below_step (pB HB) hb)
    (try clear hb)
    (try clear hb2)
    (try clear hk)
    (try clear hi)
    refine hK.out _ _ ⟨(blk_cell BK384.out 0).trans rfl, (blk_cell BK384.out 1).trans rfl, (blk_cell BK384.out 2).trans rfl, (blk_cell BK384.out 3).trans rfl, (blk_cell BK384.out 4).trans rfl, (blk_cell BK371.out 0).trans rfl, (blk_cell BK371.out 1).trans rfl, (blk_cell BK371.out 2).trans rfl, (blk_cell BK371.out 3).trans rfl, (blk_cell BK371.out 4).trans rfl⟩ (fun hHeld => ?_)
    clear hK K
    refine norm_ (a' := ?_) ?_ ?_
    rotate_left
    ·show Act.put _ (some 121) _ = _
     simp only [Act.put,sT,sZ,sU,i64_w,i32_w]
     rfl
    refine one_ (i := 12) (N := some 123) #[true,true,true,true,true,true,true,true,true,true,true,true,true,false,false,false] rfl rfl (one_of HT_.out (by kernel_rfl)) (by decide) (fun K hK => ?_)
    refine goes_ Try.func24 (by kernel_rfl) rfl #[.agg #[.int .i64 a0_0, .int .i64 a0_1, .int .i64 a0_2, .slice A0_3 l0_3.length c0_3, .slice A0_4 l0_4.length c0_4]] (by rfl) rfl rfl (by (try simp only [List.map_toArray, List.map_cons, List.map_nil]); first | done | rfl | (simp only [List.length_drop, List.length_take]; rfl)) ?_
    with_reducible refine (insolvencyref33_CheckDocket.calls k a0_0 a0_1 a0_2 _ _ l0_3 _ _ l0_4 t403 _ ?side1 ?side2 ?side3 ?side4 A104.out).mono ?_
    (case side1 => exact cB HR0_3 HB)
    (case side2 => exact HC0_3.out)
    (case side3 => exact cB HR0_4 HB)
    (case side4 => exact HC0_4.out)
    rintro e w111 ⟨rfl, hb⟩
    refine ⟨_, rfl, ?_⟩
    replace HO_385003 := rB HO_385003 hb
    replace HO_385004 := rB HO_385004 hb
    replace BK371 := bB BK371 hb
    replace BK384 := bB BK384 hb
    replace HB := Aside0.mk (below_step (pB HB) hb)
    (try clear hb)
    (try clear hb2)
    (try clear hk)
    (try clear hi)
    refine hK.out _ _ ⟨(blk_cell BK384.out 0).trans rfl, (blk_cell BK384.out 1).trans rfl, (blk_cell BK384.out 2).trans rfl, (blk_cell BK384.out 3).trans rfl, (blk_cell BK384.out 4).trans rfl, (blk_cell BK371.out 0).trans rfl, (blk_cell BK371.out 1).trans rfl, (blk_cell BK371.out 2).trans rfl, (blk_cell BK371.out 3).trans rfl, (blk_cell BK371.out 4).trans rfl⟩ (fun hHeld => ?_)
    clear hK K
    refine norm_ (a' := ?_) ?_ ?_
    rotate_left
    ·show Act.put _ (some 123) _ = _
     simp only [Act.put,sT,sZ,sU,i64_w,i32_w]
     rfl
    refine pure_ (i := 13) (N := some 124) (v := ?_) (a' := ?_) #[true,true,true,true,true,true,true,true,true,true,true,true,true,true,false,false] rfl rfl (any_of HT_.out (by kernel_rfl)) (fun _ _ _ h => h) (Or.inl ⟨by rfl, ?_⟩) ?_ ?_
    rotate_left
    ·intro w'
     go_simp
     with_reducible rfl
    rotate_left
    ·simp only [Act.put,sT,sZ,sU,i64_w,i32_w]
     rfl
    refine pure_ (i := 14) (N := some 125) (v := ?_) (a' := ?_) #[true,true,true,true,true,true,true,true,true,true,true,true,true,true,true,false] rfl rfl (any_of HT_.out (by kernel_rfl)) (fun _ _ _ h => h) (Or.inl ⟨by rfl, ?_⟩) ?_ ?_
    rotate_left
    ·intro w'
     go_simp
     with_reducible rfl
    rotate_left
    ·simp only [Act.put,sT,sZ,sU,i64_w,i32_w]
     rfl
    refine pure_ (i := 15) (N := some 12) (v := ?_) (a' := ?_) #[true,true,true,true,true,true,true,true,true,true,true,true,true,true,true,true] rfl rfl (any_of HT_.out (by kernel_rfl)) (fun _ _ _ h => h) (Or.inl ⟨by rfl, ?_⟩) ?_ ?_
    rotate_left
    ·intro w'
     go_simp
     with_reducible rfl
    rotate_left
    ·simp only [Act.put,sT,sZ,sU,i64_w,i32_w]
     rfl
    refine done_ (done_of HT_.out (by kernel_rfl)) ?_
    try go_wp2
    go_ret
    exact ⟨by first | rfl | (simp [errW_none, errW_some] <;> rfl) | (simp [*, errW_none, errW_some] <;> rfl), pB HB⟩
end Go.Proofs.Ytpfiecjacpbhkaa.D

namespace Go.Proofs.YtpfiecjacpbhkaaW.PrintWords
open Go.ChangeShapes Go.WideShapes
end Go.Proofs.YtpfiecjacpbhkaaW.PrintWords

namespace Go.Proofs.Ytpfiecjacpbhkaa.Ho
open Go.RowKit Go.ChangeShapes Go.WideShapes Go.Deep Go.Proofs.YtpfiecjacpbhkaaW.PrintWords
open Go.Proofs.Ytpfiecjacpbhkaa.D
theorem rows_of {α : Type} {R : α → List Value → Prop} (ok : α → Prop) {size : Nat} {w : World} {A : Option Addr} {n : Nat} (hn : n ≤ maxLen)
    (h : 0 < n → ∃ ad, A = some ad ∧ ∀ i, i < n → ∃ x c, c.length = size ∧ R x c ∧ ok x ∧ ∀ j u, c[j]? = some u → w.cell? (ad.add (i * size + j)) = some u) :
    ∃ l : List α, n = l.length ∧ ReadsRow R size w A l.length l ∧ ∀ x ∈ l, ok x := by
  rcases Nat.eq_zero_or_pos n with h0 | hp
  · subst h0
    exact ⟨[], rfl, ⟨rfl, Nat.zero_le _, fun h => absurd h (Nat.lt_irrefl 0)⟩, fun x hx => by cases hx⟩
  · obtain ⟨ad, eA, hrow⟩ := h hp
    have key : ∀ m, m ≤ n → ∃ l : List α, l.length = m ∧ (∀ (j : Nat) (p : α), l[j]? = some p → ∃ c : List Value, c.length = size ∧ R p c ∧ ∀ i u, c[i]? = some u → w.cell? (ad.add (j * size + i)) = some u) ∧ ∀ x ∈ l, ok x := by
      intro m
      induction m with
      | zero => exact fun _ => ⟨[], rfl, fun j p hj => by simp at hj, fun x hx => by cases hx⟩
      | succ m ih =>
        intro hm
        obtain ⟨l, hl, hr, hok⟩ := ih (by omega)
        obtain ⟨x, c, hs, hR, hx, hcell⟩ := hrow m (by omega)
        refine ⟨l ++ [x], by simp [hl], ?_, ?_⟩
        · intro j p hj
          by_cases hlt : j < l.length
          · rw [List.getElem?_append_left hlt] at hj
            exact hr j p hj
          · have hle : l.length ≤ j := by omega
            rw [List.getElem?_append_right hle] at hj
            have e0 : j - l.length = 0 := by
              rcases Nat.eq_zero_or_pos (j - l.length) with e | e
              · exact e
              · rw [List.getElem?_eq_none (by simp; omega)] at hj
                cases hj
            rw [e0] at hj
            have ej : j = m := by omega
            subst ej
            have ex : x = p := by simpa using hj
            subst ex
            exact ⟨c, hs, hR, hcell⟩
        · intro y hy
          rcases List.mem_append.1 hy with h1 | h1
          · exact hok y h1
          · have : y = x := by simpa using h1
            subst this
            exact hx
    obtain ⟨l, hl, hr, hok⟩ := key n (Nat.le_refl _)
    refine ⟨l, hl.symm, ⟨rfl, ?_, fun _ => ⟨ad, eA, hr⟩⟩, hok⟩
    rw [hl]
    unfold maxLen at hn
    omega
section
variable {H : Type} {enc : TypeId × Value → H} {P : Program} {w : World} {base : Nat} {spare : Nat → Bool} {held : Bool}
def Reads (enc : TypeId × Value → H) (P : Program) (w : World) (base : Nat) (spare : Nat → Bool) (held : Bool) {α : Type} (e : TypeId) (R : α → List Value → Prop) (ok : α → Prop) : Prop :=
  ∀ (n : Nat) (cs : List Value) (x : DataW H × List MemPlace), cs.length = P.cellsOf e → DataW.trod enc P w base spare held n e cs = some x → ∃ a : α, R a cs ∧ ok a
theorem reads_int {t : TypeId} {k : IntKind} (ht : P.underlying t = some (.int k)) : Reads enc P w base spare held t (fun (a : Int) cs => cs = [.int k a]) (fun a => (Lit.int k a).wf = true) := by
  intro n cs x _ h
  cases n with
  | zero => simp [DataW.trod] at h
  | succ n =>
    unfold DataW.trod at h
    rw [ht] at h
    split at h <;> simp_all
theorem reads_bool {t : TypeId} (ht : P.underlying t = some .bool) : Reads enc P w base spare held t (fun (a : Bool) cs => cs = [.bool a]) (fun _ => True) := by
  intro n cs x _ h
  cases n with
  | zero => simp [DataW.trod] at h
  | succ n =>
    unfold DataW.trod at h
    rw [ht] at h
    split at h <;> simp_all
theorem open_rows {α : Type} {t e : TypeId} {R : α → List Value → Prop} {ok : α → Prop} {v : Value} {d : DataW H} {p : List MemPlace} {r : Reach} {b0 : Nat} (ht : P.underlying t = some (.slice e)) (hv : Value.okWide P w r b0 t v)
    (h : DataW.Trod enc P w base spare held t v d p) (hR : Reads enc P w base spare held e R ok) :
    ∃ (A : Option Addr) (l : List α) (cap : Nat), v = .slice A l.length cap ∧ l.length ≤ cap ∧ l.length ≤ maxLen ∧ ReadsRow R (P.cellsOf e) w A l.length l ∧ ∀ x ∈ l, ok x := by
  obtain ⟨A, len, cap, rfl⟩ := okWide_slice ht hv
  obtain ⟨fuel, hf⟩ := h
  rcases open_slice ht hf with ⟨hcs, _⟩ | ⟨a, len', cap', m, n, D, Pl, hcs, _, hl, hm, hmm, _, hi⟩
  · simp [Value.cells] at hcs
    obtain ⟨rfl, rfl, rfl⟩ := hcs
    exact ⟨none, [], 0, rfl, Nat.zero_le _, Nat.zero_le _, ⟨rfl, Nat.zero_le _, fun h => absurd h (Nat.lt_irrefl 0)⟩, fun x hx => by cases hx⟩
  · simp [Value.cells] at hcs
    obtain ⟨rfl, rfl, rfl⟩ := hcs
    have hlm : len ≤ m := by rw [hmm]; split <;> omega
    obtain ⟨l, rfl, hr, hok⟩ := rows_of (R := R) (w := w) (A := some a) (size := P.cellsOf e) ok (n := len) (by omega) (fun _ => ⟨a, rfl, fun i hi' => by
      obtain ⟨cs', hc, ht'⟩ := hi i (by omega)
      obtain ⟨_, hcl, hat⟩ := World.cells?_some hc
      obtain ⟨x, hx, hx'⟩ := hR n cs' _ hcl ht'
      refine ⟨x, cs', hcl, hx, hx', fun j u hu => ?_⟩
      have hj : j < cs'.length := (List.getElem?_eq_some_iff.1 hu).1
      rw [← Go.Deep.add_add, hat j (by omega), hu]⟩)
    exact ⟨some a, l, cap, rfl, hl, by omega, hr, hok⟩
theorem open_struct {α : Type} {t : TypeId} {fs : Array Field} {R : α → List Value → Prop} {ok : α → Prop} {v : Value} {d : DataW H} {p : List MemPlace} {r : Reach} {b0 : Nat} (ht : P.underlying t = some (.struct fs)) (hv : Value.okWide P w r b0 t v)
    (h : DataW.Trod enc P w base spare held t v d p) (hR : Reads enc P w base spare held t R ok) : ∃ (cs : List Value) (a : α), v = .agg cs.toArray ∧ R a cs ∧ ok a := by
  obtain ⟨cs, rfl, hsz⟩ := okWide_struct ht hv
  obtain ⟨fuel, hf⟩ := h
  obtain ⟨l⟩ := cs
  have e1 : (Value.agg ⟨l⟩).cells.toList = l := by simp [Value.cells]
  rw [e1] at hf
  obtain ⟨a, ha, ha'⟩ := hR fuel l _ (by simpa using hsz) hf
  exact ⟨l, a, rfl, ha, ha'⟩
theorem open_array {α : Type} {t e : TypeId} {n : Nat} {R : α → List Value → Prop} {ok : α → Prop} {v : Value} {d : DataW H} {p : List MemPlace} {r : Reach} {b0 : Nat} (ht : P.underlying t = some (.array n e)) (hv : Value.okWide P w r b0 t v)
    (h : DataW.Trod enc P w base spare held t v d p) (hR : Reads enc P w base spare held t R ok) : ∃ (cs : List Value) (a : α), v = .agg cs.toArray ∧ R a cs ∧ ok a := by
  simp only [Value.okWide, ht] at hv
  obtain ⟨cs, rfl, hsz, _⟩ := hv
  obtain ⟨fuel, hf⟩ := h
  obtain ⟨l⟩ := cs
  have e1 : (Value.agg ⟨l⟩).cells.toList = l := by simp [Value.cells]
  rw [e1] at hf
  obtain ⟨a, ha, ha'⟩ := hR fuel l _ (by simpa using hsz) hf
  exact ⟨l, a, rfl, ha, ha'⟩
theorem field_at {e : TypeId} {fs : Array Field} {n : Nat} {cs : List Value} {x : DataW H × List MemPlace} (he : P.underlying e = some (.struct fs)) (hone : oneCellFields P fs = true) (h : DataW.trod enc P w base spare held n e cs = some x) :
    ∃ m, ∀ (j : Nat) (f : Field) (v : Value), fs[j]? = some f → cs[j]? = some v → P.cellsOf f.type = 1 ∧ ∃ y, DataW.trod enc P w base spare held m f.type [v] = some y := by
  obtain ⟨ys, m, _, _, hlen, hyl, hf⟩ := DataW.trod_struct he h
  refine ⟨m, fun j f v hj hv => ?_⟩
  obtain ⟨ho, hk⟩ := hone_of hone j f hj
  have h1 := hf j f hj
  rw [ho, hk] at h1
  obtain ⟨hjc, hvj⟩ := List.getElem?_eq_some_iff.1 hv
  have hone' : (cs.drop j).take 1 = [v] := by
    rw [List.drop_eq_getElem_cons hjc, hvj]
    rfl
  rw [hone'] at h1
  have hjl : j < ys.length := by have := (Array.getElem?_eq_some_iff.1 hj).1; omega
  exact ⟨hk, ys[j], h1.trans (List.getElem?_eq_getElem hjl)⟩
theorem elem_at {e e' : TypeId} {k n : Nat} {cs : List Value} {x : DataW H × List MemPlace} (he : P.underlying e = some (.array k e')) (hone : P.cellsOf e' = 1) (h : DataW.trod enc P w base spare held n e cs = some x) :
    ∃ m, ∀ (j : Nat) (v : Value), j < k → cs[j]? = some v → ∃ y, DataW.trod enc P w base spare held m e' [v] = some y := by
  obtain ⟨ys, m, _, _, hlen, hyl, hf⟩ := DataW.trod_array he h
  refine ⟨m, fun j v hj hv => ?_⟩
  have h1 := hf j hj
  rw [hone, Nat.mul_one] at h1
  obtain ⟨hjc, hvj⟩ := List.getElem?_eq_some_iff.1 hv
  have hone' : (cs.drop j).take 1 = [v] := by
    rw [List.drop_eq_getElem_cons hjc, hvj]
    rfl
  rw [hone'] at h1
  exact ⟨ys[j]'(by omega), h1.trans (List.getElem?_eq_getElem (by omega))⟩
end
end Go.Proofs.Ytpfiecjacpbhkaa.Ho

namespace Go.Proofs.Ytpfiecjacpbhkaa.D
structure S22 where
  f0 : Int
  f1 : Int
def k22.K (_ : World) (x : S22) (cs : List Value) : Prop := cs = [.int .u8 x.f0, .int .u8 x.f1]
theorem k22_mk (w : World) (x : S22) : k22.K w x [.int .u8 x.f0, .int .u8 x.f1] := rfl
theorem k22_open {w : World} {x : S22} {cs : List Value} (h : k22.K w x cs) : cs = [.int .u8 x.f0, .int .u8 x.f1] := h
end Go.Proofs.Ytpfiecjacpbhkaa.D
namespace Go.Proofs.Ytpfiecjacpbhkaa.Ho
open Go.RowKit Go.ChangeShapes Go.WideShapes Go.Deep Go.Proofs.YtpfiecjacpbhkaaW.PrintWords
open Go.Proofs.Ytpfiecjacpbhkaa.D
set_option linter.unusedVariables false
set_option linter.unusedSimpArgs false
section
variable {H : Type} {enc : TypeId × Value → H} {w : World} {base : Nat} {spare : Nat → Bool} {held : Bool}
theorem cellsI_i64 : Try.prog.cellsOf 3 = 1 := by kernel_rfl
theorem cellsI_u16 : Try.prog.cellsOf 54 = 1 := by kernel_rfl
theorem cellsI_u8 : Try.prog.cellsOf 5 = 1 := by kernel_rfl
theorem cellsB : Try.prog.cellsOf 4 = 1 := by kernel_rfl
theorem readsI_i64 : Reads enc Try.prog w base spare held 3 (fun (a : Int) cs => (Kd.int .i64).K w a cs) (fun a => (Lit.int .i64 a).wf = true) := reads_int Try.underlying3
theorem readsI_u16 : Reads enc Try.prog w base spare held 54 (fun (a : Int) cs => (Kd.int .u16).K w a cs) (fun a => (Lit.int .u16 a).wf = true) := reads_int Try.underlying54
theorem readsI_u8 : Reads enc Try.prog w base spare held 5 (fun (a : Int) cs => (Kd.int .u8).K w a cs) (fun a => (Lit.int .u8 a).wf = true) := reads_int Try.underlying5
def ok22 (a : S22) : Prop := (Lit.int .u8 a.f0).wf = true ∧ (Lit.int .u8 a.f1).wf = true
theorem cells22 : Try.prog.cellsOf 22 = 2 := by kernel_rfl
theorem reads22 : Reads enc Try.prog w base spare held 22 (fun (a : S22) cs => k22.K w a cs) ok22 := by
  intro n cs x hl h
  rw [cells22] at hl
  obtain ⟨m, hm⟩ := elem_at Try.underlying22 (by kernel_rfl) h
  match cs, hl with
  | [v0, v1], _ =>
    obtain ⟨y0, h0⟩ := hm 0 v0 (by omega) rfl
    obtain ⟨b0, e0, w0⟩ := reads_int Try.underlying5 m [v0] y0 cellsI_u8.symm h0
    cases e0
    obtain ⟨y1, h1⟩ := hm 1 v1 (by omega) rfl
    obtain ⟨b1, e1, w1⟩ := reads_int Try.underlying5 m [v1] y1 cellsI_u8.symm h1
    cases e1
    exact ⟨⟨b0, b1⟩, k22_mk w _, w0, w1⟩
def ok47 (a : S47) : Prop := (Lit.int .i64 a.f0).wf = true ∧ (Lit.int .i64 a.f1).wf = true ∧ (Lit.int .i64 a.f2).wf = true ∧ (Lit.int .i64 a.f3).wf = true
theorem cells47 : Try.prog.cellsOf 47 = 4 := by kernel_rfl
theorem reads47 : Reads enc Try.prog w base spare held 47 (fun (a : S47) cs => k47.K w a cs) ok47 := by
  intro n cs x hl h
  rw [cells47] at hl
  obtain ⟨m, hm⟩ := field_at Try.underlying47 (by kernel_rfl) h
  match cs, hl with
  | [v0, v1, v2, v3], _ =>
    obtain ⟨_, y0, h0⟩ := hm 0 _ v0 rfl rfl
    obtain ⟨b0, e0, w0⟩ := reads_int Try.underlying3 m [v0] y0 cellsI_i64.symm h0
    cases e0
    obtain ⟨_, y1, h1⟩ := hm 1 _ v1 rfl rfl
    obtain ⟨b1, e1, w1⟩ := reads_int Try.underlying3 m [v1] y1 cellsI_i64.symm h1
    cases e1
    obtain ⟨_, y2, h2⟩ := hm 2 _ v2 rfl rfl
    obtain ⟨b2, e2, w2⟩ := reads_int Try.underlying3 m [v2] y2 cellsI_i64.symm h2
    cases e2
    obtain ⟨_, y3, h3⟩ := hm 3 _ v3 rfl rfl
    obtain ⟨b3, e3, w3⟩ := reads_int Try.underlying3 m [v3] y3 cellsI_i64.symm h3
    cases e3
    exact ⟨⟨b0, b1, b2, b3⟩, k47_mk w _, w0, w1, w2, w3⟩
def ok50 (a : S50) : Prop := (Lit.int .i64 a.f0).wf = true ∧ (Lit.int .i64 a.f1).wf = true ∧ (Lit.int .i64 a.f2).wf = true ∧ (Lit.int .i64 a.f3).wf = true
theorem cells50 : Try.prog.cellsOf 50 = 5 := by kernel_rfl
theorem reads50 : Reads enc Try.prog w base spare held 50 (fun (a : S50) cs => k50.K w a cs) ok50 := by
  intro n cs x hl h
  rw [cells50] at hl
  obtain ⟨m, hm⟩ := field_at Try.underlying50 (by kernel_rfl) h
  match cs, hl with
  | [v0, v1, v2, v3, v4], _ =>
    obtain ⟨_, y0, h0⟩ := hm 0 _ v0 rfl rfl
    obtain ⟨b0, e0, w0⟩ := reads_int Try.underlying3 m [v0] y0 cellsI_i64.symm h0
    cases e0
    obtain ⟨_, y1, h1⟩ := hm 1 _ v1 rfl rfl
    obtain ⟨b1, e1, w1⟩ := reads_int Try.underlying3 m [v1] y1 cellsI_i64.symm h1
    cases e1
    obtain ⟨_, y2, h2⟩ := hm 2 _ v2 rfl rfl
    obtain ⟨b2, e2, w2⟩ := reads_int Try.underlying3 m [v2] y2 cellsI_i64.symm h2
    cases e2
    obtain ⟨_, y3, h3⟩ := hm 3 _ v3 rfl rfl
    obtain ⟨b3, e3, w3⟩ := reads_int Try.underlying3 m [v3] y3 cellsI_i64.symm h3
    cases e3
    obtain ⟨_, y4, h4⟩ := hm 4 _ v4 rfl rfl
    obtain ⟨b4, e4, w4⟩ := reads_bool Try.underlying4 m [v4] y4 cellsB.symm h4
    cases e4
    exact ⟨⟨b0, b1, b2, b3, b4⟩, k50_mk w _, w0, w1, w2, w3⟩
def ok83 (a : S83) : Prop := (Lit.int .u8 a.f0).wf = true ∧ (Lit.int .u8 a.f1).wf = true ∧ (Lit.int .u8 a.f2).wf = true ∧ (Lit.int .u8 a.f3).wf = true
theorem cells83 : Try.prog.cellsOf 83 = 4 := by kernel_rfl
theorem reads83 : Reads enc Try.prog w base spare held 83 (fun (a : S83) cs => k83.K w a cs) ok83 := by
  intro n cs x hl h
  rw [cells83] at hl
  obtain ⟨m, hm⟩ := elem_at Try.underlying83 (by kernel_rfl) h
  match cs, hl with
  | [v0, v1, v2, v3], _ =>
    obtain ⟨y0, h0⟩ := hm 0 v0 (by omega) rfl
    obtain ⟨b0, e0, w0⟩ := reads_int Try.underlying5 m [v0] y0 cellsI_u8.symm h0
    cases e0
    obtain ⟨y1, h1⟩ := hm 1 v1 (by omega) rfl
    obtain ⟨b1, e1, w1⟩ := reads_int Try.underlying5 m [v1] y1 cellsI_u8.symm h1
    cases e1
    obtain ⟨y2, h2⟩ := hm 2 v2 (by omega) rfl
    obtain ⟨b2, e2, w2⟩ := reads_int Try.underlying5 m [v2] y2 cellsI_u8.symm h2
    cases e2
    obtain ⟨y3, h3⟩ := hm 3 v3 (by omega) rfl
    obtain ⟨b3, e3, w3⟩ := reads_int Try.underlying5 m [v3] y3 cellsI_u8.symm h3
    cases e3
    exact ⟨⟨b0, b1, b2, b3⟩, k83_mk w _, w0, w1, w2, w3⟩
end
end Go.Proofs.Ytpfiecjacpbhkaa.Ho

namespace Go.Proofs.Ytpfiecjacpbhkaa.Ho
open Go.RowKit Go.ChangeShapes Go.WideShapes Go.Deep Go.Proofs.YtpfiecjacpbhkaaW.PrintWords
open Go.Proofs.Ytpfiecjacpbhkaa.D
set_option linter.unusedVariables false
set_option linter.unusedSimpArgs false
section
variable {H : Type} {enc : TypeId × Value → H} {w : World} {base : Nat} {spare : Nat → Bool} {held : Bool}
theorem reads_slice {P : Program} {α : Type} {t e : TypeId} {R : α → List Value → Prop} {ok : α → Prop} (ht : P.underlying t = some (.slice e)) (hR : Reads enc P w base spare held e R ok) :
    Reads enc P w base spare held t (fun (l : List α) cs => ∃ A c, cs = [.slice A l.length c] ∧ l.length ≤ c ∧ ReadsRow R (P.cellsOf e) w A l.length l) (fun l => l.length ≤ maxLen ∧ ∀ x ∈ l, ok x) := by
  intro n cs x _ hf
  rcases open_slice ht hf with ⟨hcs, _⟩ | ⟨a, len', cap', m, n, D, Pl, hcs, _, hl, hm, hmm, _, hi⟩
  · subst hcs
    exact ⟨[], ⟨none, 0, rfl, Nat.zero_le _, ⟨rfl, Nat.zero_le _, fun h => absurd h (Nat.lt_irrefl 0)⟩⟩, Nat.zero_le _, fun x hx => by cases hx⟩
  · subst hcs
    have hlm : len' ≤ m := by rw [hmm]; split <;> omega
    obtain ⟨l, rfl, hr, hok⟩ := rows_of (R := R) (w := w) (A := some a) (size := P.cellsOf e) ok (n := len') (by omega) (fun _ => ⟨a, rfl, fun i hi' => by
      obtain ⟨cs', hc, ht'⟩ := hi i (by omega)
      obtain ⟨_, hcl, hat⟩ := World.cells?_some hc
      obtain ⟨x, hx, hx'⟩ := hR n cs' _ hcl ht'
      refine ⟨x, cs', hcl, hx, hx', fun j u hu => ?_⟩
      have hj : j < cs'.length := (List.getElem?_eq_some_iff.1 hu).1
      rw [← Go.Deep.add_add, hat j (by omega), hu]⟩)
    exact ⟨l, ⟨some a, cap', rfl, hl, hr⟩, by omega, hok⟩
structure Trm where
  x : Int
  y : Int
  l : List Int
def okT (a : Trm) : Prop := (Lit.int .i64 a.x).wf = true ∧ (Lit.int .i64 a.y).wf = true ∧ a.l.length ≤ maxLen ∧ ∀ x ∈ a.l, (Lit.int .i64 x).wf = true
def rdT (w : World) (a : Trm) (cs : List Value) : Prop := ∃ A c, cs = [.int .i64 a.x, .int .i64 a.y, .slice A a.l.length c] ∧ a.l.length ≤ c ∧ Kd.C (Kd.int .i64) w A a.l.length a.l
theorem cellsT : Try.prog.cellsOf 27 = 3 := by kernel_rfl
theorem cellsL : Try.prog.cellsOf 25 = 1 := by kernel_rfl
theorem cellsM : Try.prog.cellsOf 28 = 1 := by kernel_rfl
theorem cellsD : Try.prog.cellsOf 30 = 5 := by kernel_rfl
set_option maxRecDepth 100000 in
theorem readsT : Reads enc Try.prog w base spare held 27 (rdT w) okT := by
  intro n cs x hl h
  rw [cellsT] at hl
  obtain ⟨m, hm⟩ := field_at Try.underlying27 (by kernel_rfl) h
  match cs, hl with
  | [v0, v1, v2], _ =>
    obtain ⟨_, y0, h0⟩ := hm 0 _ v0 rfl rfl
    obtain ⟨b0, e0, w0⟩ := reads_int Try.underlying3 m [v0] y0 cellsI_i64.symm h0
    cases e0
    obtain ⟨_, y1, h1⟩ := hm 1 _ v1 rfl rfl
    obtain ⟨b1, e1, w1⟩ := reads_int Try.underlying3 m [v1] y1 cellsI_i64.symm h1
    cases e1
    obtain ⟨_, y2, h2⟩ := hm 2 _ v2 rfl rfl
    obtain ⟨b2, ⟨A, c, e2, hc, hr⟩, w2⟩ := reads_slice Try.underlying25 readsI_i64 m [v2] y2 cellsL.symm h2
    cases e2
    have hr2 : ReadsRow ((Kd.int .i64).K w) 1 w A b2.length b2 := by rw [cellsI_i64] at hr; exact hr
    exact ⟨⟨b0, b1, b2⟩, ⟨A, c, rfl, hc, hr2⟩, w0, w1, w2⟩
set_option maxRecDepth 100000 in
theorem open_terms {v : Value} {d : DataW H} {p : List MemPlace} {r : Reach} {b0 : Nat} (hv : Value.okWide Try.prog w r b0 27 v) (h : DataW.Trod enc Try.prog w base spare held 27 v d p) :
    ∃ (x y : Int) (A : Option Addr) (l : List Int) (c : Nat), v = .agg #[.int .i64 x, .int .i64 y, .slice A l.length c] ∧ l.length ≤ c ∧ Kd.C (Kd.int .i64) w A l.length l ∧ (Lit.int .i64 x).wf = true ∧ (Lit.int .i64 y).wf = true ∧ l.length ≤ maxLen ∧ ∀ x ∈ l, (Lit.int .i64 x).wf = true := by
  obtain ⟨cs, a, rfl, hR, hk⟩ := open_struct (R := rdT w) (ok := okT) Try.underlying27 hv h readsT
  unfold rdT at hR
  unfold okT at hk
  obtain ⟨A, c, rfl, hc, hr⟩ := hR
  obtain ⟨h1, h2, h3, h4⟩ := hk
  exact ⟨_, _, A, _, c, rfl, hc, hr, h1, h2, h3, h4⟩
end
end Go.Proofs.Ytpfiecjacpbhkaa.Ho

namespace Go.Proofs.Ytpfiecjacpbhkaa.Ho
open Go.RowKit Go.ChangeShapes Go.WideShapes Go.Deep Go.Proofs.YtpfiecjacpbhkaaW.PrintWords
open Go.Proofs.Ytpfiecjacpbhkaa.D
set_option linter.unusedVariables false
set_option linter.unusedSimpArgs false
section
variable {H : Type} {enc : TypeId × Value → H} {w : World} {base : Nat} {spare : Nat → Bool} {held : Bool}
structure Dok where
  d : Int
  x : Int
  y : Int
  l : List Int
  m : List S50
def okD (a : Dok) : Prop := (Lit.int .i64 a.d).wf = true ∧ (Lit.int .i64 a.x).wf = true ∧ (Lit.int .i64 a.y).wf = true ∧ a.l.length ≤ maxLen ∧ (∀ x ∈ a.l, (Lit.int .i64 x).wf = true) ∧ a.m.length ≤ maxLen ∧ ∀ x ∈ a.m, ok50 x
def rdD (w : World) (a : Dok) (cs : List Value) : Prop := ∃ A c A' c', cs = [.int .i64 a.d, .int .i64 a.x, .int .i64 a.y, .slice A a.l.length c, .slice A' a.m.length c'] ∧ a.l.length ≤ c ∧ Kd.C (Kd.int .i64) w A a.l.length a.l ∧ a.m.length ≤ c' ∧ Kd.C k50 w A' a.m.length a.m
set_option maxRecDepth 100000 in
theorem readsD : Reads enc Try.prog w base spare held 30 (rdD w) okD := by
  intro n cs x hl h
  rw [cellsD] at hl
  obtain ⟨ys, m, _, _, hlen, hyl, hf⟩ := DataW.trod_struct Try.underlying30 h
  match cs, hl with
  | [v0, v1, v2, v3, v4], _ =>
    have g0 := hf 0 _ rfl
    have g1 := hf 1 _ rfl
    have g2 := hf 2 _ rfl
    replace g0 : DataW.trod enc Try.prog w base spare held m 3 (([v0, v1, v2, v3, v4].drop 0).take (Try.prog.cellsOf 3)) = ys[0]? := g0
    replace g1 : DataW.trod enc Try.prog w base spare held m 27 (([v0, v1, v2, v3, v4].drop 1).take (Try.prog.cellsOf 27)) = ys[1]? := g1
    replace g2 : DataW.trod enc Try.prog w base spare held m 28 (([v0, v1, v2, v3, v4].drop 4).take (Try.prog.cellsOf 28)) = ys[2]? := g2
    rw [cellsI_i64] at g0
    rw [cellsT] at g1
    rw [cellsM] at g2
    have q : ys.length = 3 := hyl
    rw [List.getElem?_eq_getElem (by omega)] at g0 g1 g2
    obtain ⟨b0, e0, w0⟩ := reads_int Try.underlying3 m [v0] _ cellsI_i64.symm g0
    cases e0
    obtain ⟨b1, ⟨A, c, e1, hc, hr⟩, w1⟩ := readsT m [v1, v2, v3] _ cellsT.symm g1
    cases e1
    obtain ⟨b2, ⟨A', c', e2, hc', hr'⟩, w2⟩ := reads_slice Try.underlying28 reads50 m [v4] _ cellsM.symm g2
    cases e2
    have hr2 : ReadsRow (k50.K w) 5 w A' b2.length b2 := by rw [cells50] at hr'; exact hr'
    exact ⟨⟨b0, b1.x, b1.y, b1.l, b2⟩, ⟨A, c, A', c', rfl, hc, hr, hc', hr2⟩, w0, w1.1, w1.2.1, w1.2.2.1, w1.2.2.2, w2⟩
set_option maxRecDepth 100000 in
theorem open_docket {v : Value} {d : DataW H} {p : List MemPlace} {r : Reach} {b0 : Nat} (hv : Value.okWide Try.prog w r b0 30 v) (h : DataW.Trod enc Try.prog w base spare held 30 v d p) :
    ∃ (z x y : Int) (A : Option Addr) (l : List Int) (c : Nat) (A' : Option Addr) (ms : List S50) (c' : Nat), v = .agg #[.int .i64 z, .int .i64 x, .int .i64 y, .slice A l.length c, .slice A' ms.length c'] ∧ l.length ≤ c ∧ Kd.C (Kd.int .i64) w A l.length l ∧ ms.length ≤ c' ∧ Kd.C k50 w A' ms.length ms ∧
      (Lit.int .i64 z).wf = true ∧ (Lit.int .i64 x).wf = true ∧ (Lit.int .i64 y).wf = true ∧ l.length ≤ maxLen ∧ (∀ x ∈ l, (Lit.int .i64 x).wf = true) ∧ ms.length ≤ maxLen ∧ ∀ x ∈ ms, ok50 x := by
  obtain ⟨cs, a, rfl, hR, h1⟩ := open_struct (R := rdD w) (ok := okD) Try.underlying30 hv h readsD
  unfold rdD at hR
  unfold okD at h1
  obtain ⟨A, c, A', c', rfl, hc, hr, hc', hr'⟩ := hR
  exact ⟨_, _, _, A, _, c, A', _, c', rfl, hc, hr, hc', hr', h1⟩
end
end Go.Proofs.Ytpfiecjacpbhkaa.Ho

namespace Go.Proofs.Ytpfiecjacpbhkaa.D
open Go.RowKit
def insolvencylaw33_DocketCheck.Pure : Prop := ∀ (z0 : Int) (x0 : Int) (y0 : Int) (l0 : List Int) (m0 : List S50) (a1 : S22) (l2 : List Int) (l3 : List S83) (a4 : Int) (a5 : Int), (Lit.int .i64 z0).wf = true → (Lit.int .i64 x0).wf = true → (Lit.int .i64 y0).wf = true → l0.length ≤ maxLen → (∀ x ∈ l0, (Lit.int .i64 x).wf = true) → m0.length ≤ maxLen → (∀ x ∈ m0, Ho.ok50 x) → Ho.ok22 a1 → l2.length ≤ maxLen → (∀ x ∈ l2, (Lit.int .u16 x).wf = true) → l3.length ≤ maxLen → (∀ x ∈ l3, Ho.ok83 x) → (Lit.int .u8 a4).wf = true → (Lit.int .u8 a5).wf = true → ∃ k, insolvencylaw33_DocketCheck.f k z0 x0 y0 l0 m0 a1.f0 a1.f1 l2 l3 a4 a5 = some true
end Go.Proofs.Ytpfiecjacpbhkaa.D

namespace Go.Proofs.Ytpfiecjacpbhkaa.Hx
open Go.RowKit Go.Proofs.YtpfiecjacpbhkaaW.PrintWords Go.Proofs.YtpfiecjacpbhkaaW.PrintLast Go.Proofs.YtpfiecjacpbhkaaW.PrintMore F Hm
set_option linter.unusedVariables false
theorem ev_const {α : Type} {o : Option α} {r : α} (h : o = some r) : Ev (fun _ => o) r := ⟨0, fun _ _ => h⟩
theorem ev_if {α : Type} {c : Prop} [Decidable c] {g f : Nat → Option α} {r : α} (h : c) (k : Ev g r) : Ev (fun n => if c then g n else f n) r := by
  obtain ⟨K, k⟩ := k
  exact ⟨K, fun n hn => by show (if c then g n else f n) = _; rw [if_pos h]; exact k n hn⟩
theorem ev_else {α : Type} {c : Prop} [Decidable c] {g f : Nat → Option α} {r : α} (h : ¬ c) (k : Ev f r) : Ev (fun n => if c then g n else f n) r := by
  obtain ⟨K, k⟩ := k
  exact ⟨K, fun n hn => by show (if c then g n else f n) = _; rw [if_neg h]; exact k n hn⟩
theorem ev_then {α β : Type} {o : Option α} {f : Nat → α → Option β} {a : α} {r : β} (h : o = some a) (k : Ev (fun n => f n a) r) : Ev (fun n => o.bind (f n)) r := by
  obtain ⟨K, k⟩ := k
  exact ⟨K, fun n hn => by show o.bind (f n) = _; rw [h]; exact k n hn⟩
theorem w64 (x : Int) (h0 : -9223372036854775808 ≤ x) (h1 : x ≤ 9223372036854775807) : wrap64 x = x := by
  unfold wrap64
  omega
def isD (d : Int) : Bool := decide (0 ≤ d) && decide (d ≤ 1048576)
theorem isDay_some (d : Int) : calendar_isDay.f d = some (isD d) := by
  unfold calendar_isDay.f isD
  by_cases h : d ≥ 0
  · rw [if_pos h, decide_eq_true (show 0 ≤ d from h), Bool.true_and]
  · rw [if_neg h, decide_eq_false (show ¬ 0 ≤ d from h), Bool.false_and]
theorem refDay_some (d : Int) : insolvencyref1_IsDay.f d = some (isD d) := isDay_some d
theorem tmod_pos (d m : Int) (h : 0 ≤ d) : Int.tmod d m = d % m := Int.tmod_eq_emod_of_nonneg h
theorem tmod_neg (d m : Int) (h : d < 0) : Int.tmod d m = -((-d) % m) := by
  have e : Int.tmod d m = -(Int.tmod (-d) m) := by rw [Int.neg_tmod, Int.neg_neg]
  rw [e, tmod_pos (-d) m (by omega)]
theorem tmod7 (d : Int) : Int.tmod (wrap64 (Int.tmod d 7 + 7)) 7 = d % 7 := by
  by_cases h : 0 ≤ d
  · rw [tmod_pos d 7 h, w64 _ (by omega) (by omega), tmod_pos _ 7 (by omega)]
    omega
  · rw [tmod_neg d 7 (by omega), w64 _ (by omega) (by omega), tmod_pos _ 7 (by omega)]
    omega
theorem weekday_some (d : Int) : calendar_Weekday.f d = some (d % 7) := by
  unfold calendar_Weekday.f
  rw [tmod7]
theorem refWeekday_some (d : Int) : insolvencyref1_Weekday.f d = some (d % 7) := by
  unfold insolvencyref1_Weekday.f
  by_cases h0 : 0 ≤ d
  · rw [tmod_pos d 7 h0, if_neg (by omega)]
  · rw [tmod_neg d 7 (by omega)]
    by_cases h : -((-d) % 7) < 0
    · rw [if_pos h, w64 _ (by omega) (by omega)]
      congr 1
      omega
    · rw [if_neg h]
      congr 1
      omega
theorem has_ev (l : List Int) (d : Int) : ∀ (n i : Nat), i ≤ l.length → l.length - i = n → l.length ≤ 9223372036854775806 →
    Ev (fun k => insolvencyref1_has.l0 k l d (i : Int)) ((l.drop i).contains d) := by
  intro n
  induction n with
  | zero =>
    intro i hi hn hl
    refine Ev.step (f := fun _ => some false) (fun k => ?_) (by rw [List.drop_eq_nil_of_le (by omega)]; exact Ev.now false)
    rw [insolvencyref1_has.l0, if_neg (by omega)]
  | succ n ih =>
    intro i hi hn hl
    have hlt : i < l.length := by omega
    have e : l.drop i = l[i] :: l.drop (i + 1) := List.drop_eq_getElem_cons hlt
    rw [e, List.contains_cons]
    by_cases hd : rd l (i : Int) = d
    · refine Ev.step (f := fun _ => some true) (fun k => ?_) ?_
      · rw [insolvencyref1_has.l0, if_pos (by omega), if_pos (by omega), if_pos hd]
      · rw [rd_nat l i hlt] at hd
        rw [hd]
        simpa using Ev.now true
    · refine Ev.step (f := fun k => insolvencyref1_has.l0 k l d ((i + 1 : Nat) : Int)) (fun k => ?_) ?_
      · rw [insolvencyref1_has.l0, if_pos (by omega), if_pos (by omega), if_neg hd, w64 _ (by omega) (by omega)]
        rfl
      · rw [rd_nat l i hlt] at hd
        rw [show (d == l[i]) = false from by simpa using fun z => hd z.symm, Bool.false_or]
        exact ih (i + 1) (by omega) (by omega) hl
theorem refBus_ev (hs : List Int) (d : Int) (hl : hs.length ≤ 9223372036854775806) : Ev (fun k => insolvencyref1_IsBusiness.f k d hs) (bus hs d) := by
  unfold insolvencyref1_IsBusiness.f
  refine ev_then (refDay_some d) ?_
  have hb : bus hs d = (isD d && (decide (d % 7 < 5) && !hs.contains d)) := by unfold bus isD; rw [Bool.and_assoc]
  rw [hb]
  cases isD d with
  | false => exact ev_else (by simp) (Ev.now false)
  | true =>
    refine ev_if rfl (ev_then (refWeekday_some d) ?_)
    by_cases h5 : d % 7 < 5
    · rw [decide_eq_true h5]
      refine ev_if h5 ?_
      have := has_ev hs d hs.length 0 (by omega) (by omega) hl
      rw [List.drop_zero] at this
      simp only [Bool.true_and]
      exact Ev.bind (f := fun _ t => some (!t)) this (Ev.now _)
    · rw [decide_eq_false h5]
      exact ev_else h5 (Ev.now false)
theorem sorted_loop (hs : List Int) (hl : hs.length ≤ 1000) : ∀ (n i : Nat) (acc : List Int), i ≤ hs.length → hs.length - i = n → acc.length ≤ i →
    Ev (fun k => calendar_sorted.l0 k acc hs (hs.length : Int) (i : Int)) (Lib.compact ((acc ++ (hs.drop i).filter fun h => decide (0 ≤ h) && (decide (h ≤ 1048576) && decide (h % 7 < 5))).mergeSort fun x y => decide (x ≤ y))) := by
  intro n
  induction n with
  | zero =>
    intro i acc hi hn ha
    refine Ev.step (f := fun _ => some (Lib.compact (acc.mergeSort fun x y => decide (x ≤ y)))) (fun k => ?_) ?_
    · rw [calendar_sorted.l0, if_neg (by omega)]
      simp [Hw.slices_Sort_closed.f, Hw.slices_Compact_closed.f, show acc.length < 4611686018427387904 by omega]
    · rw [List.drop_eq_nil_of_le (by omega), List.filter_nil, List.append_nil]
      exact Ev.now _
  | succ n ih =>
    intro i acc hi hn ha
    have hlt : i < hs.length := by omega
    have e : hs.drop i = hs[i] :: hs.drop (i + 1) := List.drop_eq_getElem_cons hlt
    have er : rd hs (i : Int) = hs[i] := rd_nat hs i hlt
    rw [e, List.filter_cons]
    have go : ∀ acc' : List Int, acc'.length ≤ i + 1 → Ev (fun k => calendar_sorted.l0 k acc' hs (hs.length : Int) (wrap64 ((i : Int) + 1))) (Lib.compact ((acc' ++ (hs.drop (i + 1)).filter fun h => decide (0 ≤ h) && (decide (h ≤ 1048576) && decide (h % 7 < 5))).mergeSort fun x y => decide (x ≤ y))) := by
      intro acc' ha'
      rw [w64 _ (by omega) (by omega)]
      exact ih (i + 1) acc' (by omega) (by omega) ha'
    by_cases hd : isD hs[i] = true
    · by_cases h5 : hs[i] % 7 < 5
      · rw [if_pos (by simp only [isD, Bool.and_eq_true, decide_eq_true_eq] at hd ⊢; exact ⟨hd.1, hd.2, h5⟩)]
        refine Ev.step (f := fun k => calendar_sorted.l0 k (acc ++ [hs[i]]) hs (hs.length : Int) (wrap64 ((i : Int) + 1))) (fun k => ?_) ?_
        · rw [calendar_sorted.l0, if_pos (by omega), if_pos (by omega), if_pos (by omega), er, isDay_some, Option.bind_some, if_pos hd, weekday_some, Option.bind_some, if_pos h5, if_pos (by omega)]
        · have := go (acc ++ [hs[i]]) (by simp; omega)
          rw [List.append_assoc] at this
          exact this
      · rw [if_neg (by simp only [Bool.and_eq_true, decide_eq_true_eq]; intro z; exact h5 z.2.2)]
        refine Ev.step (f := fun k => calendar_sorted.l0 k acc hs (hs.length : Int) (wrap64 ((i : Int) + 1))) (fun k => ?_) (go acc (by omega))
        rw [calendar_sorted.l0, if_pos (by omega), if_pos (by omega), if_pos (by omega), er, isDay_some, Option.bind_some, if_pos hd, weekday_some, Option.bind_some, if_neg h5]
    · rw [if_neg (by simp only [isD, Bool.and_eq_true, decide_eq_true_eq] at hd ⊢; intro z; exact hd ⟨z.1, z.2.1⟩)]
      refine Ev.step (f := fun k => calendar_sorted.l0 k acc hs (hs.length : Int) (wrap64 ((i : Int) + 1))) (fun k => ?_) (go acc (by omega))
      rw [calendar_sorted.l0, if_pos (by omega), if_pos (by omega), if_pos (by omega), er, isDay_some, Option.bind_some, if_neg hd]
theorem sorted_ev (hs : List Int) (hl : hs.length ≤ 1000) : Ev (fun k => calendar_sorted.f k hs) (closedOf hs) := by
  have := sorted_loop hs hl hs.length 0 [] (by omega) (by omega) (by simp)
  rw [List.drop_zero, List.nil_append] at this
  exact this
theorem before_some (hs c : List Int) (hc : IsClosed hs c) (hl : c.length ≤ 1000) (d : Nat) (hd : d ≤ 1048577) : E.calendar_closed_before.f c (d : Int) = some (cnt hs d : Int) := by
  have h1 := cnt_closed hc d hd
  have h2 := bs_nb c (d : Int) hc.1
  have h3 := nb_le c (d : Int)
  have h4 := cnt_le hs d
  unfold E.calendar_closed_before.f Hw.sort_SearchInts.f
  rw [if_pos (by omega), Option.bind_some, h2]
  have e : mn (Int.tmod (d : Int) 7) 5 = ((min (d % 7) 5 : Nat) : Int) := by
    rw [tmod_pos _ 7 (by omega)]
    unfold mn
    split <;> omega
  have e2 : Int.tdiv (d : Int) 7 = (d : Int) / 7 := Int.tdiv_eq_ediv_of_nonneg (by omega)
  rw [e, e2, w64 ((d : Int) / 7) (by omega) (by omega)]
  unfold wk at h1
  rw [w64 ((d : Int) / 7 * 5) (by omega) (by omega), w64 (_ + _) (by omega) (by omega), w64 _ (by omega) (by omega)]
  congr 1
  omega
theorem nth_some (hs c : List Int) (hc : IsClosed hs c) (hl : c.length ≤ 1000) (m : Int) (hm : 0 ≤ m) : ∃ r, Hw.calendar_closed_nth.f c m = some r ∧ IsRes hs m r := by
  unfold Hw.calendar_closed_nth.f
  rw [if_pos (by omega)]
  refine ⟨_, ?_, res_of_bs hm (p := Hw.nthP c m) (fun d hd => ?_)⟩
  · split <;> rfl
  · unfold Hw.nthP
    have := before_some hs c hc hl (d + 1) (by omega)
    rw [show ((d + 1 : Nat) : Int) = (d : Int) + 1 by omega] at this
    rw [this]
    rfl
def mOf (hs : List Int) (day n : Int) : Int := if n = 0 then (cnt hs day.toNat : Int) else (cnt hs (day.toNat + 1) : Int) + n - 1
def IsAdd (hs : List Int) (day n : Int) (r : Int × Int) : Prop :=
  if (hs.length : Int) > 1000 then r = (0, 2) else if isD day = true ∧ 0 ≤ n ∧ n ≤ 1048576 then IsRes hs (mOf hs day n) r else r = (0, 1)
theorem IsAdd.unique {hs : List Int} {day n : Int} {x y : Int × Int} (h : IsAdd hs day n x) (k : IsAdd hs day n y) : x = y := by
  unfold IsAdd at h k
  by_cases h1 : (hs.length : Int) > 1000
  · rw [if_pos h1] at h k; rw [h, k]
  · rw [if_neg h1] at h k
    by_cases h2 : isD day = true ∧ 0 ≤ n ∧ n ≤ 1048576
    · rw [if_pos h2] at h k; exact h.unique k
    · rw [if_neg h2] at h k; rw [h, k]
theorem IsAdd.long {hs : List Int} {day n : Int} (h : (hs.length : Int) > 1000) : IsAdd hs day n (0, 2) := by unfold IsAdd; rw [if_pos h]
theorem IsAdd.ok {hs : List Int} {day n : Int} {r : Int × Int} (h : ¬ (hs.length : Int) > 1000) (h2 : isD day = true ∧ 0 ≤ n ∧ n ≤ 1048576) (hr : IsRes hs (mOf hs day n) r) : IsAdd hs day n r := by unfold IsAdd; rw [if_neg h, if_pos h2]; exact hr
theorem IsAdd.bad {hs : List Int} {day n : Int} (h : ¬ (hs.length : Int) > 1000) (h2 : ¬ (isD day = true ∧ 0 ≤ n ∧ n ≤ 1048576)) : IsAdd hs day n (0, 1) := by unfold IsAdd; rw [if_neg h, if_neg h2]
theorem mOf_nonneg (hs : List Int) (day n : Int) (hn : 0 ≤ n) : 0 ≤ mOf hs day n := by
  unfold mOf
  split <;> omega
theorem add_ev (hs : List Int) (day n : Int) : ∃ r, Ev (fun k => calendar_Add.f k day n hs) r ∧ IsAdd hs day n r := by
  unfold calendar_Add.f
  by_cases h1 : (hs.length : Int) > 1000
  · exact ⟨(0, 2), ev_if h1 (Ev.now _), IsAdd.long h1⟩
  have bad : ∀ b : Bool, b = true → Ev (fun k => calendar_Add.j0 k day n hs b) ((0, 1) : Int × Int) := by
    rintro b rfl
    refine Ev.step (f := fun _ => some (0, 1)) (fun k => ?_) (Ev.now _)
    rw [calendar_Add.j0, if_pos rfl]
  by_cases h2 : isD day = true ∧ 0 ≤ n ∧ n ≤ 1048576
  · have h2' := h2
    obtain ⟨hd, hn0, hn1⟩ := h2
    have hd' := hd
    simp only [isD, Bool.and_eq_true, decide_eq_true_eq] at hd'
    obtain ⟨d, rfl⟩ := Int.eq_ofNat_of_zero_le hd'.1
    have hcl := closedOf_closed hs
    have hln : (closedOf hs).length ≤ 1000 := by have := closedOf_length hs; omega
    obtain ⟨r, hr, hres⟩ := nth_some hs (closedOf hs) hcl hln (mOf hs (d : Int) n) (mOf_nonneg _ _ _ hn0)
    refine ⟨r, ?_, IsAdd.ok h1 h2' hres⟩
    refine ev_else h1 (ev_then (isDay_some _) (ev_if hd (ev_else (show ¬ n < 0 by omega) ?_)))
    rw [decide_eq_false (show ¬ n > 1048576 by omega)]
    refine Ev.step (f := fun k => (calendar_sorted.f k hs).bind fun t => _) (fun k => ?_) (Ev.bind (f := fun _ t => if n = 0 then ((E.calendar_closed_before.f t (d : Int)).bind fun t115 => ((Hw.calendar_closed_nth.f t t115).bind fun bt116 => (some (bt116.1, bt116.2)))) else ((E.calendar_closed_before.f t (wrap64 ((d : Int) + 1))).bind fun t118 => ((Hw.calendar_closed_nth.f t (wrap64 ((wrap64 (t118 + n)) - 1))).bind fun bt119 => (some (bt119.1, bt119.2))))) (sorted_ev hs (by omega)) ?_)
    · rw [calendar_Add.j0, if_neg (by simp)]
    · have hdn : d ≤ 1048576 := by omega
      have c1 := cnt_le hs (d + 1)
      unfold mOf at hr
      rw [Int.toNat_natCast] at hr
      by_cases h0 : n = 0
      · rw [if_pos h0] at hr ⊢
        rw [before_some hs _ hcl hln d (by omega), Option.bind_some, hr]
        exact Ev.now _
      · rw [if_neg h0] at hr ⊢
        rw [w64 ((d : Int) + 1) (by omega) (by omega), show ((d : Int) + 1) = ((d + 1 : Nat) : Int) by omega, before_some hs _ hcl hln (d + 1) (by omega), Option.bind_some, w64 (_ + n) (by omega) (by omega), w64 _ (by omega) (by omega), hr]
        exact Ev.now _
  · refine ⟨(0, 1), ?_, IsAdd.bad h1 h2⟩
    refine ev_else h1 (ev_then (isDay_some _) ?_)
    by_cases hd : isD day = true
    · refine ev_if hd ?_
      by_cases hn : n < 0
      · exact ev_if hn (bad _ rfl)
      · exact ev_else hn (bad _ (decide_eq_true (show n > 1048576 from by
          have h3 : ¬ (0 ≤ n ∧ n ≤ 1048576) := fun z => h2 ⟨hd, z⟩
          omega)))
    · exact ev_else hd (bad _ rfl)
theorem refLoop (hs : List Int) (hl : hs.length ≤ 1000) : ∀ (j d : Nat) (n : Int), d ≤ 1048577 → 1048577 - d = j → 0 ≤ n → n ≤ 1048576 →
    ∃ r, Ev (fun k => insolvencyref1_AddDays.l0 k n hs (d : Int)) r ∧ IsRes hs ((cnt hs d : Int) + (if n ≤ 1 then 1 else n) - 1) r := by
  intro j
  induction j with
  | zero =>
    intro d n hd hj h0 h1
    obtain rfl : d = 1048577 := by omega
    refine ⟨(0, 1), Ev.step (f := fun _ => some (0, 1)) (fun k => ?_) (Ev.now _), .inr ⟨rfl, by split <;> omega⟩⟩
    rw [insolvencyref1_AddDays.l0, if_neg (by omega)]
  | succ j ih =>
    intro d n hd hj h0 h1
    have hb := refBus_ev hs (d : Int) (by omega)
    have hc : cnt hs (d + 1) = cnt hs d + if bus hs (d : Int) = true then 1 else 0 := rfl
    have unf : ∀ k, insolvencyref1_AddDays.l0 (k + 1) n hs (d : Int) = (insolvencyref1_IsBusiness.f k (d : Int) hs).bind fun t => if t = true then (if n ≤ 1 then some ((d : Int), 0) else insolvencyref1_AddDays.l0 k (wrap64 (n - 1)) hs (wrap64 ((d : Int) + 1))) else insolvencyref1_AddDays.l0 k n hs (wrap64 ((d : Int) + 1)) := fun k => by
      rw [insolvencyref1_AddDays.l0, if_pos (by omega)]
    have e1 : wrap64 ((d : Int) + 1) = ((d + 1 : Nat) : Int) := by rw [w64 _ (by omega) (by omega)]; omega
    by_cases hbus : bus hs (d : Int) = true
    · rw [if_pos hbus] at hc
      by_cases hn : n ≤ 1
      · refine ⟨((d : Int), 0), Ev.step unf (Ev.bind hb ?_), .inl ⟨d, by omega, rfl, by rw [if_pos hn]; omega, by rw [if_pos hn]; omega⟩⟩
        exact ev_if hbus (ev_if hn (Ev.now _))
      · obtain ⟨r, hr, hres⟩ := ih (d + 1) (n - 1) (by omega) (by omega) (by omega) (by omega)
        refine ⟨r, Ev.step unf (Ev.bind hb ?_), ?_⟩
        · refine ev_if hbus (ev_else hn ?_)
          rw [e1, w64 (n - 1) (by omega) (by omega)]
          exact hr
        · rw [if_neg hn]
          rw [hc] at hres
          by_cases h2 : n - 1 ≤ 1
          · rw [if_pos h2] at hres
            rw [show (cnt hs d : Int) + n - 1 = ((cnt hs d + 1 : Nat) : Int) + 1 - 1 by omega]
            exact hres
          · rw [if_neg h2] at hres
            rw [show (cnt hs d : Int) + n - 1 = ((cnt hs d + 1 : Nat) : Int) + (n - 1) - 1 by omega]
            exact hres
    · obtain ⟨r, hr, hres⟩ := ih (d + 1) n (by omega) (by omega) h0 h1
      refine ⟨r, Ev.step unf (Ev.bind hb ?_), ?_⟩
      · refine ev_else hbus ?_
        rw [e1]
        exact hr
      · rw [if_neg hbus] at hc
        rw [hc] at hres
        exact hres
theorem refAdd_ev (hs : List Int) (day n : Int) : ∃ r, Ev (fun k => insolvencyref1_AddDays.f k day n hs) r ∧ IsAdd hs day n r := by
  unfold insolvencyref1_AddDays.f
  by_cases h1 : (hs.length : Int) > 1000
  · exact ⟨(0, 2), ev_if h1 (Ev.now _), IsAdd.long h1⟩
  have bad : ∀ b : Bool, b = true → Ev (fun k => insolvencyref1_AddDays.j0 k day n hs b) ((0, 1) : Int × Int) := by
    rintro b rfl
    refine Ev.step (f := fun _ => some (0, 1)) (fun k => ?_) (Ev.now _)
    rw [insolvencyref1_AddDays.j0, if_pos rfl]
  by_cases h2 : isD day = true ∧ 0 ≤ n ∧ n ≤ 1048576
  · have h2' := h2
    obtain ⟨hd, hn0, hn1⟩ := h2
    have hd' := hd
    simp only [isD, Bool.and_eq_true, decide_eq_true_eq] at hd'
    obtain ⟨d, rfl⟩ := Int.eq_ofNat_of_zero_le hd'.1
    have start : ∃ r, Ev (fun k => insolvencyref1_AddDays.j0 k (d : Int) n hs false) r ∧ IsRes hs (mOf hs (d : Int) n) r := by
      unfold mOf
      rw [Int.toNat_natCast]
      by_cases h0 : n = 0
      · obtain ⟨r, hr, hres⟩ := refLoop hs (by omega) _ d n (by omega) rfl (by omega) hn1
        refine ⟨r, Ev.step (f := fun k => insolvencyref1_AddDays.j1 k n hs (d : Int)) (fun k => ?_) (Ev.step (f := fun k => insolvencyref1_AddDays.l0 k n hs (d : Int)) (fun k => ?_) hr), ?_⟩
        · rw [insolvencyref1_AddDays.j0, if_neg (by simp), if_neg (by omega)]
        · rw [insolvencyref1_AddDays.j1]
        · rw [if_pos h0]
          rw [if_pos (by omega : n ≤ 1)] at hres
          rw [show (cnt hs d : Int) + 1 - 1 = (cnt hs d : Int) by omega] at hres
          exact hres
      · obtain ⟨r, hr, hres⟩ := refLoop hs (by omega) _ (d + 1) n (by omega) rfl (by omega) hn1
        refine ⟨r, Ev.step (f := fun k => insolvencyref1_AddDays.j1 k n hs ((d + 1 : Nat) : Int)) (fun k => ?_) (Ev.step (f := fun k => insolvencyref1_AddDays.l0 k n hs ((d + 1 : Nat) : Int)) (fun k => ?_) hr), ?_⟩
        · rw [insolvencyref1_AddDays.j0, if_neg (by simp), if_pos (by omega), w64 _ (by omega) (by omega)]
          rfl
        · rw [insolvencyref1_AddDays.j1]
        · rw [if_neg h0]
          by_cases h3 : n ≤ 1
          · rw [if_pos h3] at hres
            rw [show n = 1 by omega]
            exact hres
          · rw [if_neg h3] at hres
            exact hres
    obtain ⟨r, hr, hres⟩ := start
    refine ⟨r, ?_, IsAdd.ok h1 h2' hres⟩
    refine ev_else h1 (ev_then (refDay_some _) (ev_if hd (ev_else (show ¬ n < 0 by omega) ?_)))
    rw [decide_eq_false (show ¬ n > 1048576 by omega)]
    exact hr
  · refine ⟨(0, 1), ?_, IsAdd.bad h1 h2⟩
    refine ev_else h1 (ev_then (refDay_some _) ?_)
    by_cases hd : isD day = true
    · refine ev_if hd ?_
      by_cases hn : n < 0
      · exact ev_if hn (bad _ rfl)
      · exact ev_else hn (bad _ (decide_eq_true (show n > 1048576 from by
          have h3 : ¬ (0 ≤ n ∧ n ≤ 1048576) := fun z => h2 ⟨hd, z⟩
          omega)))
    · exact ev_else hd (bad _ rfl)
theorem adds (hs : List Int) (day n : Int) : ∃ r, Ev (fun k => calendar_Add.f k day n hs) r ∧ Ev (fun k => insolvencyref1_AddDays.f k day n hs) r ∧ IsAdd hs day n r := by
  obtain ⟨r, h1, h2⟩ := add_ev hs day n
  obtain ⟨q, k1, k2⟩ := refAdd_ev hs day n
  obtain rfl := h2.unique k2
  exact ⟨r, h1, k1, h2⟩
end Go.Proofs.Ytpfiecjacpbhkaa.Hx

namespace Go.Proofs.Ytpfiecjacpbhkaa.D
open Go.RowKit Go.Proofs.YtpfiecjacpbhkaaW.PrintWords Go.Proofs.YtpfiecjacpbhkaaW.PrintLast Go.Proofs.YtpfiecjacpbhkaaW.PrintMore
attribute [local go_sem] max2_int min2_int max_two min_two max_three min_three max_four min_four
set_option linter.unusedVariables false
set_option linter.unusedSimpArgs false
theorem eqA50 (d : Nat) (w : World) (x0 y0 : Int) (x1 y1 : Int) (x2 y2 : Int) (x3 y3 : Int) (x4 y4 : Bool) :
    (Op.equalIn (d + 2) 50 (.agg #[.int .i64 x0, .int .i64 x1, .int .i64 x2, .int .i64 x3, .bool x4]) (.agg #[.int .i64 y0, .int .i64 y1, .int .i64 y2, .int .i64 y3, .bool y4])).run Try.prog w = .ok (x0 == y0 && (x1 == y1 && (x2 == y2 && (x3 == y3 && (x4 == y4))))) w := by
  refine eqA_of Try.underlying50 (by kernel_rfl) ?_
  refine eqf_cons (by rfl) (by go_simp; rfl) (by go_simp; rfl) (by go_simp) ?_
  refine eqf_cons (by rfl) (by go_simp; rfl) (by go_simp; rfl) (by go_simp) ?_
  refine eqf_cons (by rfl) (by go_simp; rfl) (by go_simp; rfl) (by go_simp) ?_
  refine eqf_cons (by rfl) (by go_simp; rfl) (by go_simp; rfl) (by go_simp) ?_
  exact eqf_last (by rfl) (by go_simp; rfl) (by go_simp; rfl) (by go_simp)
end Go.Proofs.Ytpfiecjacpbhkaa.D

namespace Go.Proofs.Ytpfiecjacpbhkaa.D
open Go.RowKit Go.Proofs.YtpfiecjacpbhkaaW.PrintWords Go.Proofs.YtpfiecjacpbhkaaW.PrintLast Go.Proofs.YtpfiecjacpbhkaaW.PrintMore
attribute [local go_sem] max2_int min2_int max_two min_two max_three min_three max_four min_four
set_option linter.unusedVariables false
set_option linter.unusedSimpArgs false
def insolvencyref1_SameInts.l0 : Nat → List Int → List Int → Int → Option (Bool)
 | 0, _, _, _ => none
 | k + 1, x0, x1, x5 => if x5 < (x0.length : Int) then (if 0 ≤ x5 then (if x5 < (x1.length : Int) then (if (rd x0 x5) = (rd x1 x5) then (insolvencyref1_SameInts.l0 k x0 x1 (wrap64 (x5 + 1))) else (none)) else (none)) else (none)) else (some true)
def insolvencyref1_SameInts.f (k : Nat) (l0 : List Int) (l1 : List Int) : Option (Bool) := if (l0.length : Int) = (l1.length : Int) then (insolvencyref1_SameInts.l0 k l0 l1 0) else (none)
theorem insolvencyref1_SameInts.mono_l : ∀ k, (∀ y0 y1 y2, LeO (insolvencyref1_SameInts.l0 k y0 y1 y2) (insolvencyref1_SameInts.l0 (k + 1) y0 y1 y2))
 | 0 => fun _ _ _ r h => by simp [insolvencyref1_SameInts.l0] at h
 | k + 1 => by
  have ih0 := insolvencyref1_SameInts.mono_l k
  ·intro y0 y1 y2
   unfold insolvencyref1_SameInts.l0
   repeat' first
   | (with_reducible exact ih0 _ _ _)
   | (with_reducible exact LeO.refl _)
   | (with_reducible exact LeO.none _)
   | (with_reducible refine LeO.ite ?_ ?_)
   | (with_reducible refine LeO.bind ?_ (fun _ => ?_))
   | exact ih0 _ _ _
   | exact LeO.none _
   | refine LeO.ite ?_ ?_
   | refine LeO.bind ?_ (fun _ => ?_)
theorem insolvencyref1_SameInts.mono : ∀ a0 a1 k, LeO (insolvencyref1_SameInts.f k a0 a1) (insolvencyref1_SameInts.f (k + 1) a0 a1) := by
 intro a0 a1 k
 have ih0 := insolvencyref1_SameInts.mono_l k
 unfold insolvencyref1_SameInts.f
 repeat' first
   | (with_reducible exact ih0 _ _ _)
   | (with_reducible exact LeO.refl _)
   | (with_reducible exact LeO.none _)
   | (with_reducible refine LeO.ite ?_ ?_)
   | (with_reducible refine LeO.bind ?_ (fun _ => ?_))
   | exact ih0 _ _ _
   | exact LeO.none _
   | refine LeO.ite ?_ ?_
   | refine LeO.bind ?_ (fun _ => ?_)
set_option maxHeartbeats 8000000 in
set_option maxRecDepth 100000 in
theorem insolvencyref1_SameInts.calls (k : Nat) (A0 : Option Addr) (c0 : Nat) (l0 : List Int) (A1 : Option Addr) (c1 : Nat) (l1 : List Int) (r : Bool) (w : World) (hr0 : Kd.C (Kd.int .i64) w A0 l0.length l0) (hc0 : l0.length ≤ c0) (hr1 : Kd.C (Kd.int .i64) w A1 l1.length l1) (hc1 : l1.length ≤ c1) (h : insolvencyref1_SameInts.f k l0 l1 = some r) :
  Calls Try.prog 33 #[.slice A0 l0.length c0, .slice A1 l1.length c1] w fun e w' => e = .returned (.bool r) ∧ Drawn0 w w' := by
 have HR0 := Aside0.mk hr0
 have HC0 := Aside0.mk hc0
 clear hr0 hc0
 have HR1 := Aside0.mk hr1
 have HC1 := Aside0.mk hc1
 clear hr1 hc1
 have H : (if (l0.length : Int) = (l1.length : Int) then (insolvencyref1_SameInts.l0 k l0 l1 0) else (none)) = some r := h
 clear h
 by_cases c3 : (l0.length : Int) = (l1.length : Int)
 ·rw [if_pos c3] at H
  have c3b0 : ((l0.length : Int) == (l1.length : Int)) = true := beq_iff_eq.mpr c3
  have c3b1 : ((l0.length : Int) != (l1.length : Int)) = false := bne_eq_false_iff_eq.mpr c3
  have c3b2 : (l0.length == l1.length) = true := by first | simpa using c3 | (simp at c3 ⊢; omega)
  clear c3
  have H' := Aside0.mk H
  clear H
  go_enter Try.func33, Try.ntmps33
  go_wp2
  repeat (go_quiet (fail); try go_wp2)
  go_loopg [5] k (fun kq v5 w' => ∃ (x5_1 : Int), v5 = .int .i64 x5_1 ∧ Aside0 (insolvencyref1_SameInts.l0 kq l0 l1 x5_1 = some r) ∧ Aside0 (kq ≤ k) ∧ Drawn0 w w')
  case atStart => exact ⟨(0), (by first | rfl | (simp; done) | (simp [*]; done)), H', ⟨Nat.le_refl _⟩, by repeat (first | exact Drawn0.refl _ | apply Drawn0.step)⟩
  case round =>
   clear H'
   try clear c1
   try clear p2
   try clear c3
   try clear c3b0
   try clear c3b1
   try clear c3b2
   obtain ⟨x5_1, rfl, HA, HK1, ⟨m1, rfl⟩⟩ := hrel
   cases gk with
   | zero => exact absurd HA.out (by simp [insolvencyref1_SameInts.l0])
   | succ k1 =>
    have H := HA.out
    clear HA
    simp only [insolvencyref1_SameInts.l0] at H
    by_cases c4 : x5_1 < (l0.length : Int)
    ·rw [if_pos c4] at H
     have c4b0 : decide (x5_1 < (l0.length : Int)) = true := decide_eq_true c4
     clear c4
     by_cases c5 : 0 ≤ x5_1
     ·rw [if_pos c5] at H
      have c5b0 : decide (0 ≤ x5_1) = true := decide_eq_true c5
      clear c5
      by_cases c6 : x5_1 < (l1.length : Int)
      ·rw [if_pos c6] at H
       have c6b0 : decide (x5_1 < (l1.length : Int)) = true := decide_eq_true c6
       clear c6
       by_cases c7 : (rd l0 x5_1) = (rd l1 x5_1)
       ·rw [if_pos c7] at H
        have c7b0 : ((rd l0 x5_1) == (rd l1 x5_1)) = true := beq_iff_eq.mpr c7
        have c7b1 : ((rd l0 x5_1) != (rd l1 x5_1)) = false := bne_eq_false_iff_eq.mpr c7
        clear c7
        have H' := Aside0.mk H
        clear H
        have p243 : 0 ≤ (x5_1 : Int) := of_decide_eq_true (by first | (with_reducible assumption) | assumption)
        have q243 : x5_1 < (l0.length : Int) := of_decide_eq_true (by first | (with_reducible assumption) | assumption)
        obtain ⟨ad243, e243, hx243_0⟩ := Kd.at_int HR0.out x5_1 p243 q243
        cases e243
        replace p243 := eq_true p243
        replace q243 := eq_true q243
        have p244 : 0 ≤ (x5_1 : Int) := of_decide_eq_true (by first | (with_reducible assumption) | assumption)
        have q244 : x5_1 < (l1.length : Int) := of_decide_eq_true (by first | (with_reducible assumption) | assumption)
        obtain ⟨ad244, e244, hx244_0⟩ := Kd.at_int HR1.out x5_1 p244 q244
        cases e244
        replace p244 := eq_true p244
        replace q244 := eq_true q244
        go_wp2
        repeat (go_quiet (fail); try go_wp2)
        go_roundg k1
        case measure => have := HK1.out; omega
        case rel => exact ⟨(wrap64 (x5_1 + 1)), (by first | rfl | (simp; done) | (simp [*]; done)), H', ⟨by have := HK1.out; omega⟩, by repeat (first | exact Drawn0.refl _ | apply Drawn0.step)⟩
       ·rw [if_neg c7] at H
        exact absurd H (by simp)
      ·rw [if_neg c6] at H
       exact absurd H (by simp)
     ·rw [if_neg c5] at H
      exact absurd H (by simp)
    ·rw [if_neg c4] at H
     have c4b0 : decide (x5_1 < (l0.length : Int)) = false := decide_eq_false c4
     clear c4
     obtain rfl := Option.some.inj H
     go_wp2
     repeat (go_quiet (fail); try go_wp2)
     go_ret
     exact ⟨by first | rfl | (simp; done) | (simp [*]; done), by repeat (first | exact Drawn0.refl _ | apply Drawn0.step)⟩
 ·rw [if_neg c3] at H
  exact absurd H (by simp)
end Go.Proofs.Ytpfiecjacpbhkaa.D

namespace Go.Proofs.Ytpfiecjacpbhkaa.D
open Go.RowKit Go.Proofs.YtpfiecjacpbhkaaW.PrintWords Go.Proofs.YtpfiecjacpbhkaaW.PrintLast Go.Proofs.YtpfiecjacpbhkaaW.PrintMore
attribute [local go_sem] max2_int min2_int max_two min_two max_three min_three max_four min_four
set_option linter.unusedVariables false
set_option linter.unusedSimpArgs false
attribute [local go_sem high] eqA50
mutual
def insolvencyref33_SameDocket.j0 : Nat → Bool → Int → Int → Int → List Int → List (S50) → Int → Int → Int → List Int → List (S50) → Option (Bool)
 | 0, _, _, _, _, _, _, _, _, _, _, _ => none
 | k + 1, x47, x246000, x246001, x246002, x246003, x246004, x247000, x247001, x247002, x247003, x247004 => if x47 = true then (none) else (insolvencyref33_SameDocket.l0 k 0 x246000 x246001 x246002 x246003 x246004 x247000 x247001 x247002 x247003 x247004)
def insolvencyref33_SameDocket.l0 : Nat → Int → Int → Int → Int → List Int → List (S50) → Int → Int → Int → List Int → List (S50) → Option (Bool)
 | 0, _, _, _, _, _, _, _, _, _, _, _ => none
 | k + 1, x5, x246000, x246001, x246002, x246003, x246004, x247000, x247001, x247002, x247003, x247004 => if x5 < (x246004.length : Int) then (if 0 ≤ x5 then (if x5 < (x247004.length : Int) then (if (!(((rd_T50 x246004 x5).f0) == ((rd_T50 x247004 x5).f0)) || (!(((rd_T50 x246004 x5).f1) == ((rd_T50 x247004 x5).f1)) || (!(((rd_T50 x246004 x5).f2) == ((rd_T50 x247004 x5).f2)) || (!(((rd_T50 x246004 x5).f3) == ((rd_T50 x247004 x5).f3)) || (!(((rd_T50 x246004 x5).f4) == ((rd_T50 x247004 x5).f4))))))) = true then (none) else (insolvencyref33_SameDocket.l0 k (wrap64 (x5 + 1)) x246000 x246001 x246002 x246003 x246004 x247000 x247001 x247002 x247003 x247004)) else (none)) else (none)) else (some true)
end
def insolvencyref33_SameDocket.f (k : Nat) (a0_0 : Int) (a0_1 : Int) (a0_2 : Int) (l0_3 : List Int) (l0_4 : List (S50)) (a1_0 : Int) (a1_1 : Int) (a1_2 : Int) (l1_3 : List Int) (l1_4 : List (S50)) : Option (Bool) := if a0_0 = a1_0 then (if a0_1 = a1_1 then (if a0_2 = a1_2 then ((insolvencyref1_SameInts.f k l0_3 l1_3).bind fun t247 => (if t247 = true then (insolvencyref33_SameDocket.j0 k ((l0_4.length : Int) != (l1_4.length : Int)) a0_0 a0_1 a0_2 l0_3 l0_4 a1_0 a1_1 a1_2 l1_3 l1_4) else (insolvencyref33_SameDocket.j0 k true a0_0 a0_1 a0_2 l0_3 l0_4 a1_0 a1_1 a1_2 l1_3 l1_4))) else (insolvencyref33_SameDocket.j0 k true a0_0 a0_1 a0_2 l0_3 l0_4 a1_0 a1_1 a1_2 l1_3 l1_4)) else (insolvencyref33_SameDocket.j0 k true a0_0 a0_1 a0_2 l0_3 l0_4 a1_0 a1_1 a1_2 l1_3 l1_4)) else (insolvencyref33_SameDocket.j0 k true a0_0 a0_1 a0_2 l0_3 l0_4 a1_0 a1_1 a1_2 l1_3 l1_4)
theorem insolvencyref33_SameDocket.mono_l : ∀ k, (∀ y0 y1 y2 y3 y4 y5 y6 y7 y8 y9 y10, LeO (insolvencyref33_SameDocket.j0 k y0 y1 y2 y3 y4 y5 y6 y7 y8 y9 y10) (insolvencyref33_SameDocket.j0 (k + 1) y0 y1 y2 y3 y4 y5 y6 y7 y8 y9 y10)) ∧ (∀ y0 y1 y2 y3 y4 y5 y6 y7 y8 y9 y10, LeO (insolvencyref33_SameDocket.l0 k y0 y1 y2 y3 y4 y5 y6 y7 y8 y9 y10) (insolvencyref33_SameDocket.l0 (k + 1) y0 y1 y2 y3 y4 y5 y6 y7 y8 y9 y10))
 | 0 => ⟨fun _ _ _ _ _ _ _ _ _ _ _ r h => by simp [insolvencyref33_SameDocket.j0] at h, fun _ _ _ _ _ _ _ _ _ _ _ r h => by simp [insolvencyref33_SameDocket.l0] at h⟩
 | k + 1 => by
  obtain ⟨ih0, ih1⟩ := insolvencyref33_SameDocket.mono_l k
  refine ⟨?_, ?_⟩
  ·intro y0 y1 y2 y3 y4 y5 y6 y7 y8 y9 y10
   unfold insolvencyref33_SameDocket.j0
   repeat' first
   | (with_reducible exact ih0 _ _ _ _ _ _ _ _ _ _ _)
   | (with_reducible exact ih1 _ _ _ _ _ _ _ _ _ _ _)
   | (with_reducible exact insolvencyref1_SameInts.mono _ _ _)
   | (with_reducible exact LeO.refl _)
   | (with_reducible exact LeO.none _)
   | (with_reducible refine LeO.ite ?_ ?_)
   | (with_reducible refine LeO.bind ?_ (fun _ => ?_))
   | exact ih0 _ _ _ _ _ _ _ _ _ _ _
   | exact ih1 _ _ _ _ _ _ _ _ _ _ _
   | exact insolvencyref1_SameInts.mono _ _ _
   | exact LeO.none _
   | refine LeO.ite ?_ ?_
   | refine LeO.bind ?_ (fun _ => ?_)
  ·intro y0 y1 y2 y3 y4 y5 y6 y7 y8 y9 y10
   unfold insolvencyref33_SameDocket.l0
   repeat' first
   | (with_reducible exact ih0 _ _ _ _ _ _ _ _ _ _ _)
   | (with_reducible exact ih1 _ _ _ _ _ _ _ _ _ _ _)
   | (with_reducible exact insolvencyref1_SameInts.mono _ _ _)
   | (with_reducible exact LeO.refl _)
   | (with_reducible exact LeO.none _)
   | (with_reducible refine LeO.ite ?_ ?_)
   | (with_reducible refine LeO.bind ?_ (fun _ => ?_))
   | exact ih0 _ _ _ _ _ _ _ _ _ _ _
   | exact ih1 _ _ _ _ _ _ _ _ _ _ _
   | exact insolvencyref1_SameInts.mono _ _ _
   | exact LeO.none _
   | refine LeO.ite ?_ ?_
   | refine LeO.bind ?_ (fun _ => ?_)
theorem insolvencyref33_SameDocket.mono : ∀ a0 a1 a2 a3 a4 a5 a6 a7 a8 a9 k, LeO (insolvencyref33_SameDocket.f k a0 a1 a2 a3 a4 a5 a6 a7 a8 a9) (insolvencyref33_SameDocket.f (k + 1) a0 a1 a2 a3 a4 a5 a6 a7 a8 a9) := by
 intro a0 a1 a2 a3 a4 a5 a6 a7 a8 a9 k
 obtain ⟨ih0, ih1⟩ := insolvencyref33_SameDocket.mono_l k
 unfold insolvencyref33_SameDocket.f
 repeat' first
   | (with_reducible exact ih0 _ _ _ _ _ _ _ _ _ _ _)
   | (with_reducible exact ih1 _ _ _ _ _ _ _ _ _ _ _)
   | (with_reducible exact insolvencyref1_SameInts.mono _ _ _)
   | (with_reducible exact LeO.refl _)
   | (with_reducible exact LeO.none _)
   | (with_reducible refine LeO.ite ?_ ?_)
   | (with_reducible refine LeO.bind ?_ (fun _ => ?_))
   | exact ih0 _ _ _ _ _ _ _ _ _ _ _
   | exact ih1 _ _ _ _ _ _ _ _ _ _ _
   | exact insolvencyref1_SameInts.mono _ _ _
   | exact LeO.none _
   | refine LeO.ite ?_ ?_
   | refine LeO.bind ?_ (fun _ => ?_)
set_option maxHeartbeats 8000000 in
set_option maxRecDepth 100000 in
theorem insolvencyref33_SameDocket.calls (k : Nat) (a0_0 : Int) (a0_1 : Int) (a0_2 : Int) (A0_3 : Option Addr) (c0_3 : Nat) (l0_3 : List Int) (A0_4 : Option Addr) (c0_4 : Nat) (l0_4 : List (S50)) (a1_0 : Int) (a1_1 : Int) (a1_2 : Int) (A1_3 : Option Addr) (c1_3 : Nat) (l1_3 : List Int) (A1_4 : Option Addr) (c1_4 : Nat) (l1_4 : List (S50)) (r : Bool) (w : World) (hr0_3 : Kd.C (Kd.int .i64) w A0_3 l0_3.length l0_3) (hc0_3 : l0_3.length ≤ c0_3) (hr0_4 : Kd.C k50 w A0_4 l0_4.length l0_4) (hc0_4 : l0_4.length ≤ c0_4) (hr1_3 : Kd.C (Kd.int .i64) w A1_3 l1_3.length l1_3) (hc1_3 : l1_3.length ≤ c1_3) (hr1_4 : Kd.C k50 w A1_4 l1_4.length l1_4) (hc1_4 : l1_4.length ≤ c1_4) (h : insolvencyref33_SameDocket.f k a0_0 a0_1 a0_2 l0_3 l0_4 a1_0 a1_1 a1_2 l1_3 l1_4 = some r) :
  Calls Try.prog 15 #[.agg #[.int .i64 a0_0, .int .i64 a0_1, .int .i64 a0_2, .slice A0_3 l0_3.length c0_3, .slice A0_4 l0_4.length c0_4], .agg #[.int .i64 a1_0, .int .i64 a1_1, .int .i64 a1_2, .slice A1_3 l1_3.length c1_3, .slice A1_4 l1_4.length c1_4]] w fun e w' => e = .returned (.bool r) ∧ Below w.heap.size w w' := by
 have hu30 := Try.underlying30
 have hu50 := Try.underlying50
 have HR0_3 := Aside0.mk hr0_3
 have HC0_3 := Aside0.mk hc0_3
 clear hr0_3 hc0_3
 have HR0_4 := Aside0.mk hr0_4
 have HC0_4 := Aside0.mk hc0_4
 clear hr0_4 hc0_4
 have HR1_3 := Aside0.mk hr1_3
 have HC1_3 := Aside0.mk hc1_3
 clear hr1_3 hc1_3
 have HR1_4 := Aside0.mk hr1_4
 have HC1_4 := Aside0.mk hc1_4
 clear hr1_4 hc1_4
 have HB := Aside0.mk (Below.refl w.heap.size w)
 have H : (if a0_0 = a1_0 then (if a0_1 = a1_1 then (if a0_2 = a1_2 then ((insolvencyref1_SameInts.f k l0_3 l1_3).bind fun t247 => (if t247 = true then (insolvencyref33_SameDocket.j0 k ((l0_4.length : Int) != (l1_4.length : Int)) a0_0 a0_1 a0_2 l0_3 l0_4 a1_0 a1_1 a1_2 l1_3 l1_4) else (insolvencyref33_SameDocket.j0 k true a0_0 a0_1 a0_2 l0_3 l0_4 a1_0 a1_1 a1_2 l1_3 l1_4))) else (insolvencyref33_SameDocket.j0 k true a0_0 a0_1 a0_2 l0_3 l0_4 a1_0 a1_1 a1_2 l1_3 l1_4)) else (insolvencyref33_SameDocket.j0 k true a0_0 a0_1 a0_2 l0_3 l0_4 a1_0 a1_1 a1_2 l1_3 l1_4)) else (insolvencyref33_SameDocket.j0 k true a0_0 a0_1 a0_2 l0_3 l0_4 a1_0 a1_1 a1_2 l1_3 l1_4)) = some r := h
 clear h
 have HC3 := Aside0.mk H
 clear H
 go_enter Try.func15, Try.ntmps15
 go_upto_region 1 with (first | ((with_reducible refine gate_dst (N := 2) rfl ?_); (try (refine gate_guard (by rfl) ?_; dsimp only)); refine box_event ?hg (N := 2) ?hd (cs := #[.int .i64 a0_0, .int .i64 a0_1, .int .i64 a0_2, .slice A0_3 l0_3.length c0_3, .slice A0_4 l0_4.length c0_4]) (t := 30) ?hr ?_; (case hd => rfl); (case hg => rfl); (case hr => first | (go_simp; done) | (go_simp; rfl)); intro gb245 hg w4 hbox hb; have BK245 := Aside0.mk (hbox); have GW245 := gS HB hg; have GE245 := gS HB hg; replace HB := Aside0.mk (below_step (pB HB) hb); clear hb hbox hg) | ((with_reducible refine gate_dst (N := 3) rfl ?_); (try (refine gate_guard (by rfl) ?_; dsimp only)); refine box_event ?hg (N := 3) ?hd (cs := #[.int .i64 a1_0, .int .i64 a1_1, .int .i64 a1_2, .slice A1_3 l1_3.length c1_3, .slice A1_4 l1_4.length c1_4]) (t := 30) ?hr ?_; (case hd => rfl); (case hg => rfl); (case hr => first | (go_simp; done) | (go_simp; rfl)); intro gb246 hg w5 hbox hb; have BK246 := Aside0.mk (hbox); have GW246 := gS HB hg; have GE246 := gS HB hg; have NB245_246 := nL BK245 hg; have NB246_245 := nG BK245 hg; replace BK245 := bB BK245 hb; replace HB := Aside0.mk (below_step (pB HB) hb); clear hb hbox hg))
 repeat (go_quiet (first | ((with_reducible refine gate_dst (N := 2) rfl ?_); (try (refine gate_guard (by rfl) ?_; dsimp only)); refine box_event ?hg (N := 2) ?hd (cs := #[.int .i64 a0_0, .int .i64 a0_1, .int .i64 a0_2, .slice A0_3 l0_3.length c0_3, .slice A0_4 l0_4.length c0_4]) (t := 30) ?hr ?_; (case hd => rfl); (case hg => rfl); (case hr => first | (go_simp; done) | (go_simp; rfl)); intro gb245 hg w4 hbox hb; have BK245 := Aside0.mk (hbox); have GW245 := gS HB hg; have GE245 := gS HB hg; replace HB := Aside0.mk (below_step (pB HB) hb); clear hb hbox hg) | ((with_reducible refine gate_dst (N := 3) rfl ?_); (try (refine gate_guard (by rfl) ?_; dsimp only)); refine box_event ?hg (N := 3) ?hd (cs := #[.int .i64 a1_0, .int .i64 a1_1, .int .i64 a1_2, .slice A1_3 l1_3.length c1_3, .slice A1_4 l1_4.length c1_4]) (t := 30) ?hr ?_; (case hd => rfl); (case hg => rfl); (case hr => first | (go_simp; done) | (go_simp; rfl)); intro gb246 hg w5 hbox hb; have BK246 := Aside0.mk (hbox); have GW246 := gS HB hg; have GE246 := gS HB hg; have NB245_246 := nL BK245 hg; have NB246_245 := nG BK245 hg; replace BK245 := bB BK245 hb; replace HB := Aside0.mk (below_step (pB HB) hb); clear hb hbox hg)); go_upto_region 1 with (first | ((with_reducible refine gate_dst (N := 2) rfl ?_); (try (refine gate_guard (by rfl) ?_; dsimp only)); refine box_event ?hg (N := 2) ?hd (cs := #[.int .i64 a0_0, .int .i64 a0_1, .int .i64 a0_2, .slice A0_3 l0_3.length c0_3, .slice A0_4 l0_4.length c0_4]) (t := 30) ?hr ?_; (case hd => rfl); (case hg => rfl); (case hr => first | (go_simp; done) | (go_simp; rfl)); intro gb245 hg w4 hbox hb; have BK245 := Aside0.mk (hbox); have GW245 := gS HB hg; have GE245 := gS HB hg; replace HB := Aside0.mk (below_step (pB HB) hb); clear hb hbox hg) | ((with_reducible refine gate_dst (N := 3) rfl ?_); (try (refine gate_guard (by rfl) ?_; dsimp only)); refine box_event ?hg (N := 3) ?hd (cs := #[.int .i64 a1_0, .int .i64 a1_1, .int .i64 a1_2, .slice A1_3 l1_3.length c1_3, .slice A1_4 l1_4.length c1_4]) (t := 30) ?hr ?_; (case hd => rfl); (case hg => rfl); (case hr => first | (go_simp; done) | (go_simp; rfl)); intro gb246 hg w5 hbox hb; have BK246 := Aside0.mk (hbox); have GW246 := gS HB hg; have GE246 := gS HB hg; have NB245_246 := nL BK245 hg; have NB246_245 := nG BK245 hg; replace BK245 := bB BK245 hb; replace HB := Aside0.mk (below_step (pB HB) hb); clear hb hbox hg)))
 (try simp only [Act.put, sT, sZ, sU])
 go_cut [47] (fun v47 wc => ∃ (kq : Nat) (x47_2 : Bool), v47 = .bool x47_2 ∧ Aside0 (insolvencyref33_SameDocket.j0 kq x47_2 a0_0 a0_1 a0_2 l0_3 l0_4 a1_0 a1_1 a1_2 l1_3 l1_4 = some r) ∧ Aside0 (kq ≤ k) ∧ Aside0 (wc.heap[gb245]? = some (.cells #[.int .i64 a0_0, .int .i64 a0_1, .int .i64 a0_2, (.slice A0_3 l0_3.length c0_3), (.slice A0_4 l0_4.length c0_4)] 30 (0, 0))) ∧ Aside0 (wc.heap[gb246]? = some (.cells #[.int .i64 a1_0, .int .i64 a1_1, .int .i64 a1_2, (.slice A1_3 l1_3.length c1_3), (.slice A1_4 l1_4.length c1_4)] 30 (0, 0))) ∧ Aside0 (Below w.heap.size w wc))
 case first =>
  have H := HC3.out
  clear HC3
  by_cases c6 : a0_0 = a1_0
  ·rw [if_pos c6] at H
   have c6b0 : (a0_0 == a1_0) = true := beq_iff_eq.mpr c6
   have c6b1 : (a0_0 != a1_0) = false := bne_eq_false_iff_eq.mpr c6
   clear c6
   (first | rw [c6b0] | (simp only [i64_w, i32_w]; rw [c6b0]) | skip)
   by_cases c7 : a0_1 = a1_1
   ·rw [if_pos c7] at H
    have c7b0 : (a0_1 == a1_1) = true := beq_iff_eq.mpr c7
    have c7b1 : (a0_1 != a1_1) = false := bne_eq_false_iff_eq.mpr c7
    clear c7
    by_cases c8 : a0_2 = a1_2
    ·rw [if_pos c8] at H
     have c8b0 : (a0_2 == a1_2) = true := beq_iff_eq.mpr c8
     have c8b1 : (a0_2 != a1_2) = false := bne_eq_false_iff_eq.mpr c8
     clear c8
     replace H := Option.bind_eq_some_iff.mp H
     obtain ⟨t247, A90, H⟩ := H
     replace H : (if t247 = true then (insolvencyref33_SameDocket.j0 k ((l0_4.length : Int) != (l1_4.length : Int)) a0_0 a0_1 a0_2 l0_3 l0_4 a1_0 a1_1 a1_2 l1_3 l1_4) else (insolvencyref33_SameDocket.j0 k true a0_0 a0_1 a0_2 l0_3 l0_4 a1_0 a1_1 a1_2 l1_3 l1_4)) = some r := H
     have A9 := Aside0.mk A90
     clear A90
     by_cases c10 : t247 = true
     ·subst c10
      have H1 : (insolvencyref33_SameDocket.j0 k ((l0_4.length : Int) != (l1_4.length : Int)) a0_0 a0_1 a0_2 l0_3 l0_4 a1_0 a1_1 a1_2 l1_3 l1_4) = some r := by rw [if_pos rfl] at H; exact H
      clear H
      have H := H1
      clear H1
      have H' := Aside0.mk H
      clear H
      have hnb11 := NB245_246.out
      have hnc11 := NB246_245.out
      obtain ⟨hcz12_0, hcz12_1, hcz12_2, hcz12_3, hcz12_4⟩ := cells5 BK245
      obtain ⟨hfz12_0, hfz12_1, hfz12_2, hfz12_3, hfz12_4⟩ := frz5 BK245
      obtain ⟨hcz13_0, hcz13_1, hcz13_2, hcz13_3, hcz13_4⟩ := cells5 BK246
      obtain ⟨hfz13_0, hfz13_1, hfz13_2, hfz13_3, hfz13_4⟩ := frz5 BK246
      go_wp2_with (first | (go_at_call 33; (with_reducible refine (insolvencyref1_SameInts.calls k _ _ l0_3 _ _ l1_3 true _ ?side1 ?side2 ?side3 ?side4 A9.out).mono ?_); (case side1 => exact cB HR0_3 HB); (case side2 => exact HC0_3.out); (case side3 => exact cB HR1_3 HB); (case side4 => exact HC1_3.out); rintro e w' ⟨rfl, ⟨nd, rfl⟩⟩; (try first | exact ⟨rfl, _, World.drewN_drewN _ _ _⟩ | exact ⟨rfl, _, Eq.trans (World.drewN_drewN _ _ _) (congrArg (World.drewN _) (Nat.add_assoc _ _ _))⟩)))
      repeat (go_quiet (first | (go_at_call 33; (with_reducible refine (insolvencyref1_SameInts.calls k _ _ l0_3 _ _ l1_3 true _ ?side1 ?side2 ?side3 ?side4 A9.out).mono ?_); (case side1 => exact cB HR0_3 HB); (case side2 => exact HC0_3.out); (case side3 => exact cB HR1_3 HB); (case side4 => exact HC1_3.out); rintro e w' ⟨rfl, ⟨nd, rfl⟩⟩; (try first | exact ⟨rfl, _, World.drewN_drewN _ _ _⟩ | exact ⟨rfl, _, Eq.trans (World.drewN_drewN _ _ _) (congrArg (World.drewN _) (Nat.add_assoc _ _ _))⟩))); try go_wp2_with (first | (go_at_call 33; (with_reducible refine (insolvencyref1_SameInts.calls k _ _ l0_3 _ _ l1_3 true _ ?side1 ?side2 ?side3 ?side4 A9.out).mono ?_); (case side1 => exact cB HR0_3 HB); (case side2 => exact HC0_3.out); (case side3 => exact cB HR1_3 HB); (case side4 => exact HC1_3.out); rintro e w' ⟨rfl, ⟨nd, rfl⟩⟩; (try first | exact ⟨rfl, _, World.drewN_drewN _ _ _⟩ | exact ⟨rfl, _, Eq.trans (World.drewN_drewN _ _ _) (congrArg (World.drewN _) (Nat.add_assoc _ _ _))⟩))))
      go_meet
      case rel => exact ⟨_, (((l0_4.length : Int) != (l1_4.length : Int))), (by first | rfl | (simp; done) | (simp [*]; done)), H', ⟨by first | omega | exact Nat.le_refl _⟩, ⟨by (with_reducible repeat (first | refine blk_drewN ?_ _ | refine blk_drew ?_ | refine blk_alloc ?_ _)); exact BK245.out⟩, ⟨by (with_reducible repeat (first | refine blk_drewN ?_ _ | refine blk_drew ?_ | refine blk_alloc ?_ _)); exact BK246.out⟩, ⟨pB HB⟩⟩
     ·replace c10 := Bool.eq_false_iff.mpr c10
      subst c10
      have H1 : (insolvencyref33_SameDocket.j0 k true a0_0 a0_1 a0_2 l0_3 l0_4 a1_0 a1_1 a1_2 l1_3 l1_4) = some r := by rw [if_neg (show ¬ (false = true) by decide)] at H; exact H
      clear H
      have H := H1
      clear H1
      have H' := Aside0.mk H
      clear H
      have hnb14 := NB245_246.out
      have hnc14 := NB246_245.out
      obtain ⟨hcz15_0, hcz15_1, hcz15_2, hcz15_3, hcz15_4⟩ := cells5 BK245
      obtain ⟨hfz15_0, hfz15_1, hfz15_2, hfz15_3, hfz15_4⟩ := frz5 BK245
      obtain ⟨hcz16_0, hcz16_1, hcz16_2, hcz16_3, hcz16_4⟩ := cells5 BK246
      obtain ⟨hfz16_0, hfz16_1, hfz16_2, hfz16_3, hfz16_4⟩ := frz5 BK246
      go_wp2_with (first | (go_at_call 33; (with_reducible refine (insolvencyref1_SameInts.calls k _ _ l0_3 _ _ l1_3 false _ ?side1 ?side2 ?side3 ?side4 A9.out).mono ?_); (case side1 => exact cB HR0_3 HB); (case side2 => exact HC0_3.out); (case side3 => exact cB HR1_3 HB); (case side4 => exact HC1_3.out); rintro e w' ⟨rfl, ⟨nd, rfl⟩⟩; (try first | exact ⟨rfl, _, World.drewN_drewN _ _ _⟩ | exact ⟨rfl, _, Eq.trans (World.drewN_drewN _ _ _) (congrArg (World.drewN _) (Nat.add_assoc _ _ _))⟩)))
      repeat (go_quiet (first | (go_at_call 33; (with_reducible refine (insolvencyref1_SameInts.calls k _ _ l0_3 _ _ l1_3 false _ ?side1 ?side2 ?side3 ?side4 A9.out).mono ?_); (case side1 => exact cB HR0_3 HB); (case side2 => exact HC0_3.out); (case side3 => exact cB HR1_3 HB); (case side4 => exact HC1_3.out); rintro e w' ⟨rfl, ⟨nd, rfl⟩⟩; (try first | exact ⟨rfl, _, World.drewN_drewN _ _ _⟩ | exact ⟨rfl, _, Eq.trans (World.drewN_drewN _ _ _) (congrArg (World.drewN _) (Nat.add_assoc _ _ _))⟩))); try go_wp2_with (first | (go_at_call 33; (with_reducible refine (insolvencyref1_SameInts.calls k _ _ l0_3 _ _ l1_3 false _ ?side1 ?side2 ?side3 ?side4 A9.out).mono ?_); (case side1 => exact cB HR0_3 HB); (case side2 => exact HC0_3.out); (case side3 => exact cB HR1_3 HB); (case side4 => exact HC1_3.out); rintro e w' ⟨rfl, ⟨nd, rfl⟩⟩; (try first | exact ⟨rfl, _, World.drewN_drewN _ _ _⟩ | exact ⟨rfl, _, Eq.trans (World.drewN_drewN _ _ _) (congrArg (World.drewN _) (Nat.add_assoc _ _ _))⟩))))
      go_meet
      case rel => exact ⟨_, (true), (by first | rfl | (simp; done) | (simp [*]; done)), H', ⟨by first | omega | exact Nat.le_refl _⟩, ⟨by (with_reducible repeat (first | refine blk_drewN ?_ _ | refine blk_drew ?_ | refine blk_alloc ?_ _)); exact BK245.out⟩, ⟨by (with_reducible repeat (first | refine blk_drewN ?_ _ | refine blk_drew ?_ | refine blk_alloc ?_ _)); exact BK246.out⟩, ⟨pB HB⟩⟩
    ·rw [if_neg c8] at H
     have c8b0 : (a0_2 == a1_2) = false := beq_eq_false_iff_ne.mpr c8
     have c8b1 : (a0_2 != a1_2) = true := bne_iff_ne.mpr c8
     have H' := Aside0.mk H
     clear H
     have hnb17 := NB245_246.out
     have hnc17 := NB246_245.out
     obtain ⟨hcz18_0, hcz18_1, hcz18_2, hcz18_3, hcz18_4⟩ := cells5 BK245
     obtain ⟨hfz18_0, hfz18_1, hfz18_2, hfz18_3, hfz18_4⟩ := frz5 BK245
     obtain ⟨hcz19_0, hcz19_1, hcz19_2, hcz19_3, hcz19_4⟩ := cells5 BK246
     obtain ⟨hfz19_0, hfz19_1, hfz19_2, hfz19_3, hfz19_4⟩ := frz5 BK246
     go_wp2
     repeat (go_quiet (fail); try go_wp2)
     go_meet
     case rel => exact ⟨_, (true), (by first | rfl | (simp; done) | (simp [*]; done)), H', ⟨by first | omega | exact Nat.le_refl _⟩, ⟨by (with_reducible repeat (first | refine blk_drewN ?_ _ | refine blk_drew ?_ | refine blk_alloc ?_ _)); exact BK245.out⟩, ⟨by (with_reducible repeat (first | refine blk_drewN ?_ _ | refine blk_drew ?_ | refine blk_alloc ?_ _)); exact BK246.out⟩, ⟨pB HB⟩⟩
   ·rw [if_neg c7] at H
    have c7b0 : (a0_1 == a1_1) = false := beq_eq_false_iff_ne.mpr c7
    have c7b1 : (a0_1 != a1_1) = true := bne_iff_ne.mpr c7
    have H' := Aside0.mk H
    clear H
    have hnb20 := NB245_246.out
    have hnc20 := NB246_245.out
    obtain ⟨hcz21_0, hcz21_1, hcz21_2, hcz21_3, hcz21_4⟩ := cells5 BK245
    obtain ⟨hfz21_0, hfz21_1, hfz21_2, hfz21_3, hfz21_4⟩ := frz5 BK245
    obtain ⟨hcz22_0, hcz22_1, hcz22_2, hcz22_3, hcz22_4⟩ := cells5 BK246
    obtain ⟨hfz22_0, hfz22_1, hfz22_2, hfz22_3, hfz22_4⟩ := frz5 BK246
    go_wp2
    repeat (go_quiet (fail); try go_wp2)
    go_meet
    case rel => exact ⟨_, (true), (by first | rfl | (simp; done) | (simp [*]; done)), H', ⟨by first | omega | exact Nat.le_refl _⟩, ⟨by (with_reducible repeat (first | refine blk_drewN ?_ _ | refine blk_drew ?_ | refine blk_alloc ?_ _)); exact BK245.out⟩, ⟨by (with_reducible repeat (first | refine blk_drewN ?_ _ | refine blk_drew ?_ | refine blk_alloc ?_ _)); exact BK246.out⟩, ⟨pB HB⟩⟩
  ·rw [if_neg c6] at H
   have c6b0 : (a0_0 == a1_0) = false := beq_eq_false_iff_ne.mpr c6
   have c6b1 : (a0_0 != a1_0) = true := bne_iff_ne.mpr c6
   (first | rw [c6b0] | (simp only [i64_w, i32_w]; rw [c6b0]) | skip)
   have H' := Aside0.mk H
   clear H
   have hnb23 := NB245_246.out
   have hnc23 := NB246_245.out
   obtain ⟨hcz24_0, hcz24_1, hcz24_2, hcz24_3, hcz24_4⟩ := cells5 BK245
   obtain ⟨hfz24_0, hfz24_1, hfz24_2, hfz24_3, hfz24_4⟩ := frz5 BK245
   obtain ⟨hcz25_0, hcz25_1, hcz25_2, hcz25_3, hcz25_4⟩ := cells5 BK246
   obtain ⟨hfz25_0, hfz25_1, hfz25_2, hfz25_3, hfz25_4⟩ := frz5 BK246
   go_wp2
   repeat (go_quiet (fail); try go_wp2)
   go_meet
   case rel => exact ⟨_, (true), (by first | rfl | (simp; done) | (simp [*]; done)), H', ⟨by first | omega | exact Nat.le_refl _⟩, ⟨by (with_reducible repeat (first | refine blk_drewN ?_ _ | refine blk_drew ?_ | refine blk_alloc ?_ _)); exact BK245.out⟩, ⟨by (with_reducible repeat (first | refine blk_drewN ?_ _ | refine blk_drew ?_ | refine blk_alloc ?_ _)); exact BK246.out⟩, ⟨pB HB⟩⟩
 case rest =>
  clear HC3
  try clear c1
  try clear c2
  try clear p2
  try clear c6
  try clear c6b0
  try clear c6b1
  try clear c7
  try clear c7b0
  try clear c7b1
  try clear c8
  try clear c8b0
  try clear c8b1
  try clear c10
  try clear c11
  try clear c14
  try clear c15
  try clear c17
  try clear c20
  try clear c23
  obtain ⟨kq, x47_2, rfl, HA, HJ2, BK245, BK246, HB⟩ := hcut
  cases kq with
  | zero => exact absurd HA.out (by simp [insolvencyref33_SameDocket.j0])
  | succ kj2 =>
   have H := HA.out
   clear HA
   simp only [insolvencyref33_SameDocket.j0] at H
   by_cases c26 : x47_2 = true
   ·subst c26
    have H1 : (none) = some r := by rw [if_pos rfl] at H; exact H
    clear H
    have H := H1
    clear H1
    exact absurd H (by simp)
   ·replace c26 := Bool.eq_false_iff.mpr c26
    subst c26
    have H1 : (insolvencyref33_SameDocket.l0 kj2 0 a0_0 a0_1 a0_2 l0_3 l0_4 a1_0 a1_1 a1_2 l1_3 l1_4) = some r := by rw [if_neg (show ¬ (false = true) by decide)] at H; exact H
    clear H
    have H := H1
    clear H1
    have H' := Aside0.mk H
    clear H
    go_wp2
    repeat (go_quiet (fail); try go_wp2)
    go_loopg [5] kj2 (fun kq v5 w' => ∃ (x5_2 : Int), v5 = .int .i64 x5_2 ∧ Aside0 (insolvencyref33_SameDocket.l0 kq x5_2 a0_0 a0_1 a0_2 l0_3 l0_4 a1_0 a1_1 a1_2 l1_3 l1_4 = some r) ∧ Aside0 (kq ≤ kj2) ∧ Aside0 (w'.heap[gb245]? = some (.cells #[.int .i64 a0_0, .int .i64 a0_1, .int .i64 a0_2, (.slice A0_3 l0_3.length c0_3), (.slice A0_4 l0_4.length c0_4)] 30 (0, 0))) ∧ Aside0 (w'.heap[gb246]? = some (.cells #[.int .i64 a1_0, .int .i64 a1_1, .int .i64 a1_2, (.slice A1_3 l1_3.length c1_3), (.slice A1_4 l1_4.length c1_4)] 30 (0, 0))) ∧ Aside0 (Below w.heap.size w w'))
    case atStart => exact ⟨(0), (by first | rfl | (simp; done) | (simp [*]; done)), H', ⟨Nat.le_refl _⟩, ⟨by (with_reducible repeat (first | refine blk_drewN ?_ _ | refine blk_drew ?_ | refine blk_alloc ?_ _)); exact BK245.out⟩, ⟨by (with_reducible repeat (first | refine blk_drewN ?_ _ | refine blk_drew ?_ | refine blk_alloc ?_ _)); exact BK246.out⟩, ⟨pB HB⟩⟩
    case round =>
     clear H'
     try clear c1
     try clear c2
     try clear p2
     try clear c6
     try clear c6b0
     try clear c6b1
     try clear c7
     try clear c7b0
     try clear c7b1
     try clear c8
     try clear c8b0
     try clear c8b1
     try clear c10
     try clear c11
     try clear c14
     try clear c15
     try clear c17
     try clear c20
     try clear c23
     try clear c26
     try clear p2
     obtain ⟨x5_2, rfl, HA, HK2, BK245, BK246, HB⟩ := hrel
     cases gk with
     | zero => exact absurd HA.out (by simp [insolvencyref33_SameDocket.l0])
     | succ k2 =>
      have H := HA.out
      clear HA
      simp only [insolvencyref33_SameDocket.l0] at H
      by_cases c27 : x5_2 < (l0_4.length : Int)
      ·rw [if_pos c27] at H
       have c27b0 : decide (x5_2 < (l0_4.length : Int)) = true := decide_eq_true c27
       clear c27
       by_cases c28 : 0 ≤ x5_2
       ·rw [if_pos c28] at H
        have c28b0 : decide (0 ≤ x5_2) = true := decide_eq_true c28
        clear c28
        by_cases c29 : x5_2 < (l1_4.length : Int)
        ·rw [if_pos c29] at H
         have c29b0 : decide (x5_2 < (l1_4.length : Int)) = true := decide_eq_true c29
         clear c29
         by_cases c30 : (!(((rd_T50 l0_4 x5_2).f0) == ((rd_T50 l1_4 x5_2).f0)) || (!(((rd_T50 l0_4 x5_2).f1) == ((rd_T50 l1_4 x5_2).f1)) || (!(((rd_T50 l0_4 x5_2).f2) == ((rd_T50 l1_4 x5_2).f2)) || (!(((rd_T50 l0_4 x5_2).f3) == ((rd_T50 l1_4 x5_2).f3)) || (!(((rd_T50 l0_4 x5_2).f4) == ((rd_T50 l1_4 x5_2).f4))))))) = true
         ·rw [if_pos c30] at H
          exact absurd H (by simp)
         ·rw [if_neg c30] at H
          have c30b0 : (!(((rd_T50 l0_4 x5_2).f0) == ((rd_T50 l1_4 x5_2).f0)) || (!(((rd_T50 l0_4 x5_2).f1) == ((rd_T50 l1_4 x5_2).f1)) || (!(((rd_T50 l0_4 x5_2).f2) == ((rd_T50 l1_4 x5_2).f2)) || (!(((rd_T50 l0_4 x5_2).f3) == ((rd_T50 l1_4 x5_2).f3)) || (!(((rd_T50 l0_4 x5_2).f4) == ((rd_T50 l1_4 x5_2).f4))))))) = false := by simpa using c30
          clear c30
          have H' := Aside0.mk H
          clear H
          have hnb31 := NB245_246.out
          have hnc31 := NB246_245.out
          obtain ⟨hcz32_0, hcz32_1, hcz32_2, hcz32_3, hcz32_4⟩ := cells5 BK245
          obtain ⟨hfz32_0, hfz32_1, hfz32_2, hfz32_3, hfz32_4⟩ := frz5 BK245
          have p248 : 0 ≤ (x5_2 : Int) := of_decide_eq_true (by first | (with_reducible assumption) | assumption)
          have q248 : x5_2 < (l0_4.length : Int) := of_decide_eq_true (by first | (with_reducible assumption) | assumption)
          obtain ⟨ad248, e248, hx248_0, hx248_1, hx248_2, hx248_3, hx248_4⟩ := at_T50 HR0_4.out x5_2 p248 q248
          cases e248
          replace hx248_0 := (HB.out.cell (World.block_lt_of_cell? w _ hx248_0)).trans hx248_0
          replace hx248_1 := (HB.out.cell (World.block_lt_of_cell? w _ hx248_1)).trans hx248_1
          replace hx248_2 := (HB.out.cell (World.block_lt_of_cell? w _ hx248_2)).trans hx248_2
          replace hx248_3 := (HB.out.cell (World.block_lt_of_cell? w _ hx248_3)).trans hx248_3
          replace hx248_4 := (HB.out.cell (World.block_lt_of_cell? w _ hx248_4)).trans hx248_4
          replace p248 := eq_true p248
          replace q248 := eq_true q248
          obtain ⟨hcz33_0, hcz33_1, hcz33_2, hcz33_3, hcz33_4⟩ := cells5 BK246
          obtain ⟨hfz33_0, hfz33_1, hfz33_2, hfz33_3, hfz33_4⟩ := frz5 BK246
          have p249 : 0 ≤ (x5_2 : Int) := of_decide_eq_true (by first | (with_reducible assumption) | assumption)
          have q249 : x5_2 < (l1_4.length : Int) := of_decide_eq_true (by first | (with_reducible assumption) | assumption)
          obtain ⟨ad249, e249, hx249_0, hx249_1, hx249_2, hx249_3, hx249_4⟩ := at_T50 HR1_4.out x5_2 p249 q249
          cases e249
          replace hx249_0 := (HB.out.cell (World.block_lt_of_cell? w _ hx249_0)).trans hx249_0
          replace hx249_1 := (HB.out.cell (World.block_lt_of_cell? w _ hx249_1)).trans hx249_1
          replace hx249_2 := (HB.out.cell (World.block_lt_of_cell? w _ hx249_2)).trans hx249_2
          replace hx249_3 := (HB.out.cell (World.block_lt_of_cell? w _ hx249_3)).trans hx249_3
          replace hx249_4 := (HB.out.cell (World.block_lt_of_cell? w _ hx249_4)).trans hx249_4
          replace p249 := eq_true p249
          replace q249 := eq_true q249
          go_wp2
          repeat (go_quiet (fail); try go_wp2)
          go_roundg k2
          case measure => have := HJ2.out; have := HK2.out; omega
          case rel => exact ⟨(wrap64 (x5_2 + 1)), (by first | rfl | (simp; done) | (simp [*]; done)), H', ⟨by have := HJ2.out; have := HK2.out; omega⟩, ⟨by (with_reducible repeat (first | refine blk_drewN ?_ _ | refine blk_drew ?_ | refine blk_alloc ?_ _)); exact BK245.out⟩, ⟨by (with_reducible repeat (first | refine blk_drewN ?_ _ | refine blk_drew ?_ | refine blk_alloc ?_ _)); exact BK246.out⟩, ⟨pB HB⟩⟩
        ·rw [if_neg c29] at H
         exact absurd H (by simp)
       ·rw [if_neg c28] at H
        exact absurd H (by simp)
      ·rw [if_neg c27] at H
       have c27b0 : decide (x5_2 < (l0_4.length : Int)) = false := decide_eq_false c27
       clear c27
       obtain rfl := Option.some.inj H
       have hnb34 := NB245_246.out
       have hnc34 := NB246_245.out
       obtain ⟨hcz35_0, hcz35_1, hcz35_2, hcz35_3, hcz35_4⟩ := cells5 BK245
       obtain ⟨hfz35_0, hfz35_1, hfz35_2, hfz35_3, hfz35_4⟩ := frz5 BK245
       go_wp2
       repeat (go_quiet (fail); try go_wp2)
       go_ret
       exact ⟨by first | rfl | (simp [errW_none, errW_some] <;> rfl) | (simp [*, errW_none, errW_some] <;> rfl), pB HB⟩
end Go.Proofs.Ytpfiecjacpbhkaa.D

namespace Go.Proofs.Ytpfiecjacpbhkaa.D
open Go.RowKit Go.Proofs.YtpfiecjacpbhkaaW.PrintWords Go.Proofs.YtpfiecjacpbhkaaW.PrintLast Go.Proofs.YtpfiecjacpbhkaaW.PrintMore Hx
set_option linter.unusedVariables false
set_option linter.unusedSimpArgs false
theorem awake_ev : Ev (fun k => insolvencylaw33_awake.f k) true := Ev.of (k := 64) (fun k => insolvencylaw33_awake.mono k) (by kernel_rfl)
def ctE (day ans app : Int) (n : Nat) : Int :=
  if day < 0 ∨ 1048576 < day then 1 else if 1000 < n then 2 else if (ans < 1 ∨ 250 < ans) ∨ app < 1 ∨ 250 < app then 1 else 0
theorem checkTerms_ev (day ans app : Int) (hs : List Int) : Ev (fun k => docket_checkTerms.f k day ans app hs) (ctE day ans app hs.length) := by
  refine ⟨1, fun k hk => ?_⟩
  obtain ⟨k, rfl⟩ : ∃ m, k = m + 1 := ⟨k - 1, by omega⟩
  show docket_checkTerms.f (k + 1) day ans app hs = _
  unfold docket_checkTerms.f docket_checkTerms.j0 ctE
  repeat' split
  all_goals first | rfl | (exfalso; simp at *; done) | (exfalso; simp at *; omega)
theorem refCheckTerms_some (day ans app : Int) (hs : List Int) : insolvencyref33_checkTerms.f day ans app hs = some (ctE day ans app hs.length) := by
  unfold insolvencyref33_checkTerms.f insolvencyref33_day.f ctE
  by_cases h0 : day ≥ 0
  · rw [if_pos h0, Option.bind_some]
    repeat' split
    all_goals first | rfl | (exfalso; simp at *; done) | (exfalso; simp at *; omega)
  · rw [if_neg h0, Option.bind_some, if_neg (by simp), if_pos (by omega)]
theorem ctE_len {day ans app : Int} {n : Nat} (h : ctE day ans app n = 0) : n ≤ 1000 := by
  unfold ctE at h
  split at h
  · cases h
  · split at h
    · cases h
    · omega
theorem cloneInts_some (l : List Int) (h : l.length < 17592186044416) : cloneInts.f l = some l := by
  unfold cloneInts.f
  rw [Option.bind_some, if_pos (by simpa using h), List.nil_append]
abbrev Dn := Int × Int × Int × List Int × List S50 × Int
def newV (day ans app : Int) (hs : List Int) : Dn := if ctE day ans app hs.length = 0 then (day, ans, app, hs, [], 0) else (0, 0, 0, [], [], ctE day ans app hs.length)
theorem newV_ok {day ans app : Int} {hs : List Int} (h : ctE day ans app hs.length = 0) : newV day ans app hs = (day, ans, app, hs, [], 0) := if_pos h
theorem newV_err {day ans app : Int} {hs : List Int} (h : ¬ ctE day ans app hs.length = 0) : newV day ans app hs = (0, 0, 0, [], [], ctE day ans app hs.length) := if_neg h
theorem new_ev (day ans app : Int) (hs : List Int) : Ev (fun k => docket_New.f k day ans app hs) (newV day ans app hs) := by
  unfold docket_New.f
  refine Ev.bind (checkTerms_ev day ans app hs) ?_
  by_cases h : ctE day ans app hs.length = 0
  · rw [newV_ok h]
    refine ev_if h (ev_then (a := (ans, app, hs)) ?_ (Ev.now _))
    unfold docket_copyTerms.f
    rw [cloneInts_some hs (by have := ctE_len h; omega)]
    rfl
  · rw [newV_err h]
    exact ev_else h (Ev.now _)
theorem refNew_some (day ans app : Int) (hs : List Int) : insolvencyref33_NewDocket.f day ans app hs = some (newV day ans app hs) := by
  unfold insolvencyref33_NewDocket.f
  rw [refCheckTerms_some, Option.bind_some]
  by_cases h : ctE day ans app hs.length = 0
  · rw [newV_ok h, if_pos h, Option.bind_some, if_pos (by have := ctE_len h; simp; omega), List.nil_append]
  · rw [newV_err h, if_neg h]
theorem ints_loop (l : List Int) (hl : l.length < 4611686018427387904) : ∀ (n i : Nat), i ≤ l.length → l.length - i = n → Ev (fun k => insolvencyref1_SameInts.l0 k l l (i : Int)) true
  | 0, i, h1, h2 => by
    refine Ev.step (fun k => rfl) (ev_else ?_ (Ev.now _))
    omega
  | n + 1, i, h1, h2 => by
    refine Ev.step (fun k => rfl) (ev_if (by omega) (ev_if (by omega) (ev_if (by omega) (ev_if rfl ?_))))
    have e : wrap64 ((i : Int) + 1) = ((i + 1 : Nat) : Int) := by rw [w64 _ (by omega) (by omega)]; omega
    rw [e]
    exact ints_loop l hl n (i + 1) (by omega) (by omega)
theorem sameInts_ev (l : List Int) (hl : l.length < 4611686018427387904) : Ev (fun k => insolvencyref1_SameInts.f k l l) true :=
  ev_if rfl (ints_loop l hl l.length 0 (Nat.zero_le _) (by omega))
theorem dock_loop (d a p : Int) (hs : List Int) (l : List S50) (hl : l.length < 4611686018427387904) : ∀ (n i : Nat), i ≤ l.length → l.length - i = n → Ev (fun k => insolvencyref33_SameDocket.l0 k (i : Int) d a p hs l d a p hs l) true
  | 0, i, h1, h2 => by
    refine Ev.step (fun k => rfl) (ev_else ?_ (Ev.now _))
    omega
  | n + 1, i, h1, h2 => by
    refine Ev.step (fun k => rfl) (ev_if (by omega) (ev_if (by omega) (ev_if (by omega) (ev_else (by simp) ?_))))
    have e : wrap64 ((i : Int) + 1) = ((i + 1 : Nat) : Int) := by rw [w64 _ (by omega) (by omega)]; omega
    rw [e]
    exact dock_loop d a p hs l hl n (i + 1) (by omega) (by omega)
theorem sameDocket_ev (d a p : Int) (hs : List Int) (l : List S50) (hh : hs.length < 4611686018427387904) (hl : l.length < 4611686018427387904) : Ev (fun k => insolvencyref33_SameDocket.f k d a p hs l d a p hs l) true := by
  unfold insolvencyref33_SameDocket.f
  refine ev_if rfl (ev_if rfl (ev_if rfl (Ev.bind (sameInts_ev hs hh) (ev_if rfl ?_))))
  refine Ev.step (fun k => rfl) (ev_else (by simp) ?_)
  exact dock_loop d a p hs l hl l.length 0 (Nat.zero_le _) (by omega)
end Go.Proofs.Ytpfiecjacpbhkaa.D

namespace Go.Proofs.Ytpfiecjacpbhkaa.D
open Go.RowKit Go.Proofs.YtpfiecjacpbhkaaW.PrintWords Go.Proofs.YtpfiecjacpbhkaaW.PrintLast Go.Proofs.YtpfiecjacpbhkaaW.PrintMore Hx
set_option linter.unusedVariables false
set_option linter.unusedSimpArgs false
def isRun (m : S50) : Bool := m.f1 == 2 || m.f1 == 4
def soundP (day : Int) (m : S50) : Prop :=
  (1 ≤ m.f1 ∧ m.f1 ≤ 6 ∧ 0 ≤ m.f3 ∧ m.f3 < 4) ∧ ((m.f1 = 2 ∨ m.f1 = 4) ∧ day ≤ m.f2 ∧ m.f2 ≤ 1048576 ∨ ¬ (m.f1 = 2 ∨ m.f1 = 4) ∧ m.f2 = 0) ∧ (m.f1 ≤ 3 → m.f3 = 0) ∧ (m.f4 = true → m.f1 = 6 ∧ m.f3 = 0)
instance (day : Int) (m : S50) : Decidable (soundP day m) := by unfold soundP; infer_instance
theorem sound_ev (day : Int) (m : S50) : Ev (fun k => docket_sound.f k m.f0 m.f1 m.f2 m.f3 m.f4 day) (decide (soundP day m)) := by
  refine ⟨3, fun k hk => ?_⟩
  obtain ⟨k, rfl⟩ : ∃ m, k = m + 3 := ⟨k - 3, by omega⟩
  obtain ⟨f0, f1, f2, f3, f4⟩ := m
  show docket_sound.f (k + 3) f0 f1 f2 f3 f4 day = some (decide (soundP day ⟨f0, f1, f2, f3, f4⟩))
  by_cases hs : 1 ≤ f1 ∧ f1 ≤ 6 ∧ 0 ≤ f3 ∧ f3 < 4
  · have e1 : f1 = 1 ∨ f1 = 2 ∨ f1 = 3 ∨ f1 = 4 ∨ f1 = 5 ∨ f1 = 6 := by omega
    have a1 : ¬ f3 < 0 := by omega
    have a2 : ¬ 4 ≤ f3 := by omega
    have a3 : 0 ≤ f3 := by omega
    have a4 : f3 < 4 := by omega
    by_cases b1 : f2 < day <;> by_cases b2 : 1048576 < f2 <;> by_cases b3 : f2 = 0 <;> by_cases b4 : f3 = 0 <;> cases f4 <;> rcases e1 with rfl | rfl | rfl | rfl | rfl | rfl
    all_goals try subst b3
    all_goals try subst b4
    all_goals first | (simp [docket_sound.f, docket_sound.j0, docket_sound.j1, docket_sound.j2, docket_running.f, soundP, a1, a2, a3, a4, *]; done) | (simp [docket_sound.f, docket_sound.j0, docket_sound.j1, docket_sound.j2, docket_running.f, soundP, a1, a2, a3, a4, *]; omega)
  · have hs2 : ¬ soundP day ⟨f0, f1, f2, f3, f4⟩ := fun h => hs h.1
    rw [decide_eq_false hs2]
    have key : ∀ b, docket_sound.j0 (k + 3) day b f0 f1 f2 f3 f4 = some false := by
      intro b
      simp only [docket_sound.j0]
      by_cases h1 : f1 < 1
      · rw [if_pos h1]
        rfl
      · rw [if_neg h1]
        by_cases h2 : f1 > 6
        · rw [if_pos h2]
          rfl
        · rw [if_neg h2]
          by_cases h3 : f3 < 0
          · rw [if_pos h3]
            rfl
          · rw [if_neg h3, decide_eq_true (show f3 ≥ 4 by omega)]
            rfl
    unfold docket_sound.f
    rw [key, key]
    simp
theorem fnd_any (x : Int) : ∀ (l : List S50) (i : Nat), (0 ≤ fnd x l i) = (l.any (fun m => m.f0 == x) = true)
  | [], i => by simp [fnd]
  | y :: r, i => by
    unfold fnd
    by_cases h : y.f0 = x
    · rw [if_pos h]
      simp [h]
    · rw [if_neg h, fnd_any x r (i + 1)]
      simp [h]
def chkL (day : Int) : List S50 → List S50 → Int
  | _, [] => 0
  | pre, m :: r => if m.f0 < 0 then 1 else if pre.any (fun x => x.f0 == m.f0) = true then 12 else if soundP day m then chkL day (pre ++ [m]) r else 1
def chkV (day ans app : Int) (hs : List Int) (ms : List S50) : Int := if ctE day ans app hs.length = 0 then if 32 < ms.length then 2 else chkL day [] ms else ctE day ans app hs.length
theorem rdM {ms : List S50} {i : Nat} (h : i < ms.length) : rd_T50 ms (i : Int) = ms[i] := by
  unfold rd_T50
  rw [Int.toNat_natCast, List.getD_eq_getElem?_getD, List.getElem?_eq_getElem h]
  rfl
theorem find_some (l : List S50) (x : Int) (h : l.length < 4611686018427387904) : docket_find.f l x = some (fnd x l 0) := by unfold docket_find.f; rw [if_pos h]
theorem wn (i n : Nat) (h : i < n) (hn : n < 4611686018427387904) : wrap64 ((i : Int) + 1) = ((i + 1 : Nat) : Int) := by rw [w64 _ (by omega) (by omega)]; omega
theorem check_loop (day ans app : Int) (hs : List Int) (ms : List S50) (hl : ms.length < 4611686018427387904) : ∀ (n i : Nat), i ≤ ms.length → ms.length - i = n →
    Ev (fun k => docket_Check.l0 k ms (ms.length : Int) (i : Int) day ans app hs ms) (chkL day (ms.take i) (ms.drop i))
  | 0, i, h1, h2 => by
    obtain rfl : i = ms.length := by omega
    rw [List.drop_length, chkL]
    exact Ev.step (fun k => rfl) (ev_else (by omega) (Ev.now _))
  | n + 1, i, h1, h2 => by
    have hi : i < ms.length := by omega
    rw [List.drop_eq_getElem_cons hi, chkL]
    refine Ev.step (fun k => rfl) (ev_if (by omega) (ev_if (by omega) (ev_if (by omega) ?_)))
    rw [rdM hi, Int.toNat_natCast]
    by_cases h3 : ms[i].f0 < 0
    · rw [if_pos h3]
      exact ev_if h3 (Ev.now _)
    rw [if_neg h3]
    refine ev_else h3 (ev_if (by omega) (ev_then (find_some _ _ (by rw [List.length_take]; omega)) ?_))
    by_cases h4 : (ms.take i).any (fun x => x.f0 == ms[i].f0) = true
    · rw [if_pos h4]
      exact ev_if (by rw [ge_iff_le, fnd_any]; exact h4) (Ev.now _)
    rw [if_neg h4]
    refine ev_else (by rw [ge_iff_le, fnd_any]; exact h4) (Ev.bind (sound_ev day ms[i]) ?_)
    by_cases h5 : soundP day ms[i]
    · rw [if_pos h5]
      refine ev_if (decide_eq_true h5) ?_
      rw [wn i _ hi hl, List.take_append_getElem hi]
      exact check_loop day ans app hs ms hl n (i + 1) (by omega) (by omega)
    · rw [if_neg h5]
      exact ev_else (by simpa using h5) (Ev.now _)
theorem check_ev (day ans app : Int) (hs : List Int) (ms : List S50) : Ev (fun k => docket_Check.f k day ans app hs ms) (chkV day ans app hs ms) := by
  unfold docket_Check.f chkV
  refine Ev.bind (checkTerms_ev day ans app hs) ?_
  by_cases h : ctE day ans app hs.length = 0
  · rw [if_pos h]
    refine ev_if h ?_
    by_cases h2 : 32 < ms.length
    · rw [if_pos h2]
      exact ev_if (by omega) (Ev.now _)
    · rw [if_neg h2]
      exact ev_else (by omega) (check_loop day ans app hs ms (by omega) ms.length 0 (Nat.zero_le _) (by omega))
  · rw [if_neg h]
    exact ev_else h (Ev.now _)
theorem chkL_ok (day : Int) : ∀ (r pre : List S50), chkL day pre r = 0 ↔ ((∀ m ∈ r, 0 ≤ m.f0 ∧ soundP day m) ∧ (r.map (·.f0)).Nodup ∧ ∀ m ∈ r, ∀ x ∈ pre, x.f0 ≠ m.f0)
  | [], pre => by simp [chkL]
  | m :: r, pre => by
    unfold chkL
    by_cases h1 : m.f0 < 0
    · rw [if_pos h1]
      constructor
      · intro h; cases h
      · rintro ⟨h, _, _⟩
        have := h m (by simp)
        omega
    rw [if_neg h1]
    by_cases h2 : pre.any (fun x => x.f0 == m.f0) = true
    · rw [if_pos h2]
      constructor
      · intro h; cases h
      · rintro ⟨_, _, h⟩
        obtain ⟨x, hx, he⟩ := List.any_eq_true.1 h2
        exact absurd (by simpa using he) (h m (by simp) x hx)
    rw [if_neg h2]
    have hp : ∀ x ∈ pre, x.f0 ≠ m.f0 := fun x hx he => h2 (List.any_eq_true.2 ⟨x, hx, by simpa using he⟩)
    by_cases h3 : soundP day m
    · rw [if_pos h3, chkL_ok day r (pre ++ [m])]
      constructor
      · rintro ⟨a, b, c⟩
        refine ⟨fun x hx => ?_, ?_, fun x hx y hy => ?_⟩
        · rcases List.mem_cons.1 hx with rfl | hx
          · exact ⟨by omega, h3⟩
          · exact a x hx
        · rw [List.map_cons, List.nodup_cons]
          refine ⟨fun hm => ?_, b⟩
          obtain ⟨x, hx, he⟩ := List.mem_map.1 hm
          exact c x hx m (by simp) he.symm
        · rcases List.mem_cons.1 hx with rfl | hx
          · exact hp y hy
          · exact c x hx y (by simp [hy])
      · rintro ⟨a, b, c⟩
        rw [List.map_cons, List.nodup_cons] at b
        refine ⟨fun x hx => a x (by simp [hx]), b.2, fun x hx y hy => ?_⟩
        rcases List.mem_append.1 hy with hy | hy
        · exact c x (by simp [hx]) y hy
        · obtain rfl : y = m := by simpa using hy
          exact fun he => b.1 (List.mem_map.2 ⟨x, hx, he.symm⟩)
    · rw [if_neg h3]
      constructor
      · intro h; cases h
      · rintro ⟨a, _, _⟩
        exact absurd (a m (by simp)).2 h3
def lapses (day : Int) (m : S50) : Prop := (m.f1 = 2 ∨ m.f1 = 4) ∧ m.f2 < day
instance (day : Int) (m : S50) : Decidable (lapses day m) := by unfold lapses; infer_instance
def lapM (day : Int) (m : S50) : S50 := if lapses day m then ⟨m.f0, 6, 0, m.f3, m.f1 == 2⟩ else m
def lapR (day : Int) (m : S50) : Option S52 := if lapses day m then some ⟨m.f0, wrap64 (m.f2 + 1), m.f3⟩ else none
theorem running_some (a b c d : Int) (e : Bool) : docket_running.f a b c d e = some (b == 2 || b == 4) := by
  unfold docket_running.f
  by_cases h : b = 2
  · simp [h]
  · rw [if_neg h]
    simp [h]
theorem rd_mid (done r : List S50) (m : S50) : rd_T50 (done ++ m :: r) (done.length : Int) = m := by
  rw [rdM (by simp)]
  simp
theorem set_mid (done r : List S50) (m m' : S50) : (done ++ m :: r).set (done.length : Int).toNat m' = done ++ m' :: r := by
  rw [Int.toNat_natCast, List.set_append_right _ _ (Nat.le_refl _)]
  simp
theorem adv_loop (day ans app : Int) (hs : List Int) : ∀ (rest done : List S50) (acc : List S52) (n : Int), n = ((done ++ rest).length : Int) → (done ++ rest).length < 1000000 → (acc ++ rest.filterMap (lapR day)).length ≤ 12 →
    Ev (fun k => docket_advance.l0 k day acc n (done.length : Int) day ans app hs (done ++ rest)) (day, ans, app, hs, done ++ rest.map (lapM day), sortR (acc ++ rest.filterMap (lapR day)))
  | [], done, acc, n, hn, h1, h2 => by
    subst hn
    refine Ev.step (fun k => rfl) (ev_else (by simp) (ev_then (a := sortR acc) ?_ ?_))
    · unfold sortRulings.f
      rw [if_pos (by simpa using h2)]
    · simp only [List.filterMap_nil, List.append_nil, List.map_nil]
      exact Ev.now _
  | m :: r, done, acc, n, hn, h1, h2 => by
    subst hn
    have hlen : (done ++ m :: r).length = done.length + r.length + 1 := by simp; omega
    refine Ev.step (fun k => rfl) (ev_if (by rw [hlen]; omega) (ev_if (by omega) (ev_if (by rw [hlen]; omega) ?_)))
    rw [rd_mid]
    refine ev_then (running_some _ _ _ _ _) ?_
    have ew : wrap64 ((done.length : Int) + 1) = ((done.length + 1 : Nat) : Int) := wn _ _ (Nat.lt_succ_self _) (by omega)
    have stay : ¬ lapses day m → Ev (fun k => docket_advance.l0 k day acc ((done ++ m :: r).length : Int) (wrap64 ((done.length : Int) + 1)) day ans app hs (done ++ m :: r)) (day, ans, app, hs, done ++ (m :: r).map (lapM day), sortR (acc ++ (m :: r).filterMap (lapR day))) := by
      intro hn
      have ih := adv_loop day ans app hs r (done ++ [m]) acc ((done ++ m :: r).length : Int) (by simp) (by simpa using h1) (by
        have e : lapR day m = none := if_neg hn
        rw [List.filterMap_cons, e] at h2
        exact h2)
      have e1 : lapR day m = none := if_neg hn
      have e2 : lapM day m = m := if_neg hn
      rw [List.filterMap_cons, e1, List.map_cons, e2, ew]
      simpa using ih
    by_cases hr : m.f1 = 2 ∨ m.f1 = 4
    · refine ev_if (by simpa using hr) ?_
      by_cases hd : m.f2 ≥ day
      · exact ev_if hd (stay (fun h => by have := h.2; omega))
      · have hlap : lapses day m := ⟨hr, by omega⟩
        have e1 : lapR day m = some ⟨m.f0, wrap64 (m.f2 + 1), m.f3⟩ := if_pos hlap
        have e2 : lapM day m = ⟨m.f0, 6, 0, m.f3, m.f1 == 2⟩ := if_pos hlap
        rw [List.filterMap_cons, e1] at h2 ⊢
        rw [List.map_cons, e2]
        refine ev_else hd (ev_if (by simp at h2; omega) (ev_then rfl (ev_then rfl ?_)))
        rw [set_mid, rd_mid, set_mid, rd_mid, set_mid, ew]
        have ih := adv_loop day ans app hs r (done ++ [⟨m.f0, 6, 0, m.f3, m.f1 == 2⟩]) (acc ++ [⟨m.f0, wrap64 (m.f2 + 1), m.f3⟩]) ((done ++ m :: r).length : Int) (by simp) (by simpa using h1) (by simpa using h2)
        simpa using ih
    · exact ev_else (by simpa using hr) (stay (fun h => hr h.1))
theorem cloneMatters_some (l : List S50) (h : l.length < 1000000) : cloneMatters.f l = some l := by
  unfold cloneMatters.f
  rw [Option.bind_some, if_pos (by simp; omega), List.nil_append]
theorem advance_ev (d day ans app : Int) (hs : List Int) (ms : List S50) (h1 : hs.length < 1000000) (h2 : ms.length < 1000000) (h3 : (ms.filterMap (lapR day)).length ≤ 12) :
    Ev (fun k => docket_advance.f k d ans app hs ms day) (day, ans, app, hs, ms.map (lapM day), sortR (ms.filterMap (lapR day))) := by
  unfold docket_advance.f
  refine ev_then (a := (ans, app, hs)) (by unfold docket_copyTerms.f; rw [cloneInts_some hs (by omega)]; rfl) (ev_then (cloneMatters_some ms h2) ?_)
  exact adv_loop day ans app hs ms [] [] (ms.length : Int) (by simp) (by simpa using h2) (by simpa using h3)
def advV (d ans app : Int) (hs : List Int) (ms : List S50) (day : Int) : Dk :=
  if chkV d ans app hs ms = 0 then if day < 0 ∨ 1048576 < day then dkErr 1 else if day < d then dkErr 15 else (day, ans, app, hs, ms.map (lapM day), sortR (ms.filterMap (lapR day)), 0) else dkErr (chkV d ans app hs ms)
theorem chkV_ok {d ans app : Int} {hs : List Int} {ms : List S50} (h : chkV d ans app hs ms = 0) : ctE d ans app hs.length = 0 ∧ hs.length ≤ 1000 ∧ ms.length ≤ 32 ∧ chkL d [] ms = 0 := by
  unfold chkV at h
  by_cases h1 : ctE d ans app hs.length = 0
  · rw [if_pos h1] at h
    by_cases h2 : 32 < ms.length
    · rw [if_pos h2] at h; cases h
    · rw [if_neg h2] at h
      exact ⟨h1, ctE_len h1, by omega, h⟩
  · rw [if_neg h1] at h
    exact absurd h h1
theorem advV_ev (d ans app : Int) (hs : List Int) (ms : List S50) (day : Int) (h : (ms.filterMap (lapR day)).length ≤ 12) : Ev (fun k => docket_Advance.f k d ans app hs ms day) (advV d ans app hs ms day) := by
  unfold docket_Advance.f
  refine Ev.bind (check_ev d ans app hs ms) ?_
  by_cases hc : chkV d ans app hs ms = 0
  · refine ev_if hc ?_
    obtain ⟨c1, c2, c3, c4⟩ := chkV_ok hc
    by_cases h1 : day < 0
    · have e : advV d ans app hs ms day = dkErr 1 := by unfold advV; rw [if_pos hc, if_pos (.inl h1)]
      rw [e]
      exact ev_if h1 ⟨1, fun k hk => by obtain ⟨k, rfl⟩ : ∃ m, k = m + 1 := ⟨k - 1, by omega⟩; rfl⟩
    · refine ev_else h1 ?_
      by_cases h2 : 1048576 < day
      · have e : advV d ans app hs ms day = dkErr 1 := by unfold advV; rw [if_pos hc, if_pos (.inr h2)]
        rw [e]
        exact Ev.step (fun k => rfl) (ev_if (by simpa using h2) (Ev.now _))
      · refine Ev.step (fun k => rfl) (ev_else (by simpa using h2) ?_)
        by_cases h3 : day < d
        · have e : advV d ans app hs ms day = dkErr 15 := by unfold advV; rw [if_pos hc, if_neg (by omega), if_pos h3]
          rw [e]
          exact ev_if h3 (Ev.now _)
        · have e : advV d ans app hs ms day = (day, ans, app, hs, ms.map (lapM day), sortR (ms.filterMap (lapR day)), 0) := by unfold advV; rw [if_pos hc, if_neg (by omega), if_neg h3]
          rw [e]
          exact ev_else h3 (Ev.bind (advance_ev d day ans app hs ms (by omega) (by omega) h) (Ev.now _))
  · have e : advV d ans app hs ms day = dkErr (chkV d ans app hs ms) := by unfold advV; rw [if_neg hc]
    rw [e]
    exact ev_else hc (Ev.now _)
end Go.Proofs.Ytpfiecjacpbhkaa.D

namespace Go.Proofs.Ytpfiecjacpbhkaa.D
open Go.RowKit Go.Proofs.YtpfiecjacpbhkaaW.PrintWords Go.Proofs.YtpfiecjacpbhkaaW.PrintLast Go.Proofs.YtpfiecjacpbhkaaW.PrintMore Hx Hm Go.Shelf Go.Sort
set_option linter.unusedVariables false
set_option linter.unusedSimpArgs false
def chgV (ad : Int × Int) (day ans app : Int) (hs : List Int) (ms : List S50) (rl : List S52) (kind at_ id opt : Int) : Dk :=
  if ad.2 ≠ 0 then dkErr ad.2 else (day, ans, app, hs, ms.set (fnd id ms 0).toNat (chgM (rd_T50 ms (fnd id ms 0)) kind ad.1 opt), if kind = 6 then rl ++ [⟨id, at_, opt⟩] else rl, 0)
def tailV (ad : Int × Int) (day ans app : Int) (hs : List Int) (ms : List S50) (rl : List S52) (kind at_ id opt : Int) : Dk :=
  if kind < 1 ∨ 6 < kind then dkErr 1
  else if kind = 1 then if (openF ms id).2 = 0 then (day, ans, app, hs, (openF ms id).1, rl, 0) else dkErr (openF ms id).2
  else if fnd id ms 0 < 0 then dkErr 11
  else if (rd_T50 ms (fnd id ms 0)).f1 ≠ kind - 1 then dkErr 13
  else if (kind = 4 ∨ kind = 6) ∧ (opt < 0 ∨ 4 ≤ opt) then dkErr 41
  else chgV (if kind = 2 ∨ kind = 4 then ad else (0, 0)) day ans app hs ms rl kind at_ id opt
def fileV (ad : Int × Int) (d ans app : Int) (hs : List Int) (ms : List S50) (kind at_ id opt : Int) : Dk :=
  if (advV d ans app hs ms at_).2.2.2.2.2.2 = 0 then tailV ad at_ ans app hs (ms.map (lapM at_)) (sortR (ms.filterMap (lapR at_))) kind at_ id opt else dkErr (advV d ans app hs ms at_).2.2.2.2.2.2
theorem ev_ite {α : Type} {c : Prop} [Decidable c] {g f : Nat → Option α} {r1 r2 : α} (h1 : c → Ev g r1) (h2 : ¬ c → Ev f r2) : Ev (fun n => if c then g n else f n) (if c then r1 else r2) := by
  by_cases h : c
  · rw [if_pos h]; exact ev_if h (h1 h)
  · rw [if_neg h]; exact ev_else h (h2 h)
theorem tail_ev (ad : Int × Int) (day ans app : Int) (hs : List Int) (ms : List S50) (rl : List S52) (kind at_ id opt : Int) (h1 : ms.length < 1000000) (h2 : rl.length < 1000000)
    (ha : Ev (fun k => F.calendar_Add.f k at_ (if kind = 2 then ans else app) hs) ad) : Ev (fun k => docket_File.tail k day ans app hs ms rl kind at_ id opt) (tailV ad day ans app hs ms rl kind at_ id opt) := by
  unfold docket_File.tail tailV
  refine ev_ite (fun _ => Ev.now _) (fun _ => ev_if (by omega) (ev_ite (fun _ => ev_ite (fun _ => Ev.now _) (fun _ => Ev.now _)) (fun _ => ev_ite (fun _ => Ev.now _) (fun _ => ev_ite (fun _ => Ev.now _) (fun _ => ev_ite (fun _ => Ev.now _) (fun _ => ?_))))))
  refine Ev.bind (a := if kind = 2 ∨ kind = 4 then ad else (0, 0)) (ev_ite (fun _ => ha) (fun _ => Ev.now _)) ?_
  generalize (if kind = 2 ∨ kind = 4 then ad else (0, 0)) = b
  unfold chgV
  refine ev_ite (fun _ => Ev.now _) (fun _ => ?_)
  by_cases c8 : kind = 6
  · simp only [if_pos c8]
    exact ev_if (by omega) (Ev.now _)
  · simp only [if_neg c8]
    exact Ev.now _
theorem advV_cases (d ans app : Int) (hs : List Int) (ms : List S50) (day : Int) : (advV d ans app hs ms day).2.2.2.2.2.2 = 0 ∧ advV d ans app hs ms day = (day, ans, app, hs, ms.map (lapM day), sortR (ms.filterMap (lapR day)), 0) ∧ chkV d ans app hs ms = 0 ∧ 0 ≤ day ∧ day ≤ 1048576 ∧ d ≤ day ∨
    (advV d ans app hs ms day).2.2.2.2.2.2 ≠ 0 ∧ advV d ans app hs ms day = dkErr (advV d ans app hs ms day).2.2.2.2.2.2 := by
  unfold advV
  by_cases c1 : chkV d ans app hs ms = 0
  · rw [if_pos c1]
    by_cases c2 : day < 0 ∨ 1048576 < day
    · rw [if_pos c2]; exact .inr ⟨by decide, rfl⟩
    · rw [if_neg c2]
      by_cases c3 : day < d
      · rw [if_pos c3]; exact .inr ⟨by decide, rfl⟩
      · rw [if_neg c3]; exact .inl ⟨rfl, rfl, c1, by omega, by omega, by omega⟩
  · rw [if_neg c1]; exact .inr ⟨c1, rfl⟩
theorem file_ev (ad : Int × Int) (d ans app : Int) (hs : List Int) (ms : List S50) (kind at_ id opt : Int) (h : ms.length ≤ 12) (ha : Ev (fun k => F.calendar_Add.f k at_ (if kind = 2 then ans else app) hs) ad) :
    Ev (fun k => docket_File.f k d ans app hs ms kind at_ id opt) (fileV ad d ans app hs ms kind at_ id opt) := by
  have hl : (ms.filterMap (lapR at_)).length ≤ 12 := Nat.le_trans (List.length_filterMap_le _ _) h
  unfold docket_File.f fileV
  refine Ev.bind (advV_ev d ans app hs ms at_ hl) ?_
  rcases advV_cases d ans app hs ms at_ with ⟨e0, e1, -⟩ | ⟨e0, e1⟩
  · rw [if_pos e0]
    refine ev_if e0 ?_
    rw [e1]
    exact tail_ev ad at_ ans app hs _ _ kind at_ id opt (by simp; omega) (by rw [ins_size]; omega) ha
  · rw [if_neg e0]
    exact ev_else e0 (Ev.now _)
def rKey (r : S52) : Int × Int := (r.f0, r.f2)
def mKey (m : S50) : Int × Int := (m.f0, m.f3)
def isFin (m : S50) : Bool := m.f1 == 6
structure Inv (d ans app : Int) (hs : List Int) (ms : List S50) (all : List S52) : Prop where
  ct : ctE d ans app hs.length = 0
  ok : ∀ m ∈ ms, 0 ≤ m.f0 ∧ m.f0 < 4 ∧ soundP d m
  nd : (ms.map (·.f0)).Nodup
  pm : (all.map rKey).Perm ((ms.filter isFin).map mKey)
  rd : ∀ r ∈ all, r.f1 ≤ d
theorem four (l : List Int) (n : Nat) (h : l.Nodup) (hb : ∀ x ∈ l, 0 ≤ x ∧ x < (n : Int)) : l.length ≤ n := by
  induction n generalizing l with
  | zero =>
    cases l with
    | nil => simp
    | cons a l =>
      have := hb a (by simp)
      omega
  | succ n ih =>
    have h1 : (l.erase (n : Int)).length ≤ n := by
      refine ih _ (h.erase _) (fun x hx => ?_)
      have h2 := hb x (List.mem_of_mem_erase hx)
      have h3 : x ≠ (n : Int) := fun e => by subst e; exact (List.Nodup.not_mem_erase h) hx
      omega
    have h4 := List.length_erase_le (a := (n : Int)) (l := l)
    have h5 : l.length ≤ (l.erase (n : Int)).length + 1 := by
      rw [List.length_erase]
      split <;> omega
    omega
theorem Inv.len {d ans app : Int} {hs : List Int} {ms : List S50} {all : List S52} (h : Inv d ans app hs ms all) : ms.length ≤ 4 := by
  have := four (ms.map (·.f0)) 4 h.nd (fun x hx => by
    obtain ⟨m, hm, rfl⟩ := List.mem_map.1 hx
    have := h.ok m hm
    exact ⟨this.1, this.2.1⟩)
  simpa using this
theorem Inv.chk {d ans app : Int} {hs : List Int} {ms : List S50} {all : List S52} (h : Inv d ans app hs ms all) : chkV d ans app hs ms = 0 := by
  unfold chkV
  have hl := h.len
  rw [if_pos h.ct, if_neg (by omega), chkL_ok]
  exact ⟨fun m hm => ⟨(h.ok m hm).1, (h.ok m hm).2.2⟩, h.nd, fun m hm x hx => by cases hx⟩
theorem Inv.all_len {d ans app : Int} {hs : List Int} {ms : List S50} {all : List S52} (h : Inv d ans app hs ms all) : all.length ≤ 4 := by
  have h1 := h.pm.length_eq
  rw [List.length_map, List.length_map] at h1
  have h2 := List.length_filter_le isFin ms
  have := h.len
  omega
theorem sort_perm (l : List S52) : (sortR l).Perm l := by
  have h := (Sort.insertionSort_holds (lt := ltOf rulCmp) rul_swo l.toArray 0 l.length (Nat.zero_le _) (by simp)).1
  unfold sortR
  have h1 := h.2.2
  have h2 : (Sort.insertionSort (ltOf rulCmp) l.toArray 0 l.length).size = l.length := by simpa using h.1
  generalize Sort.insertionSort (ltOf rulCmp) l.toArray 0 l.length = S at *
  have h3 : S.extract 0 l.length = S := by rw [← h2]; exact Array.extract_size
  rw [h3] at h1
  simpa using h1
theorem lap_perm (day : Int) : ∀ ms : List S50, (((ms.filter isFin).map mKey) ++ ((ms.filterMap (lapR day)).map rKey)).Perm (((ms.map (lapM day)).filter isFin).map mKey)
  | [] => by simp
  | m :: r => by
    have ih := lap_perm day r
    by_cases h : lapses day m
    · have e1 : lapR day m = some ⟨m.f0, wrap64 (m.f2 + 1), m.f3⟩ := if_pos h
      have e2 : lapM day m = ⟨m.f0, 6, 0, m.f3, m.f1 == 2⟩ := if_pos h
      have e3 : isFin m = false := by unfold isFin; have := h.1; simp; omega
      have g1 : (m :: r).filter isFin = r.filter isFin := List.filter_cons_of_neg (by simp [e3])
      have g2 : (m :: r).filterMap (lapR day) = ⟨m.f0, wrap64 (m.f2 + 1), m.f3⟩ :: r.filterMap (lapR day) := by rw [List.filterMap_cons, e1]
      have g3 : ((m :: r).map (lapM day)).filter isFin = ⟨m.f0, 6, 0, m.f3, m.f1 == 2⟩ :: (r.map (lapM day)).filter isFin := by rw [List.map_cons, e2, List.filter_cons_of_pos (by rfl)]
      rw [g1, g2, g3, List.map_cons, List.map_cons]
      refine List.perm_middle.trans ?_
      exact List.Perm.cons _ ih
    · have e1 : lapR day m = none := if_neg h
      have e2 : lapM day m = m := if_neg h
      have g2 : (m :: r).filterMap (lapR day) = r.filterMap (lapR day) := by rw [List.filterMap_cons, e1]
      have g4 : (m :: r).map (lapM day) = m :: r.map (lapM day) := by rw [List.map_cons, e2]
      rw [g2, g4]
      by_cases hf : isFin m = true
      · rw [List.filter_cons_of_pos hf, List.filter_cons_of_pos hf, List.map_cons, List.map_cons, List.cons_append]
        exact List.Perm.cons _ ih
      · rw [List.filter_cons_of_neg hf, List.filter_cons_of_neg hf]
        exact ih
theorem lapM_id (day : Int) (m : S50) : (lapM day m).f0 = m.f0 := by unfold lapM; split <;> rfl
theorem lap_sound {d day : Int} {m : S50} (hd : d ≤ day) (h : soundP d m) : soundP day (lapM day m) := by
  unfold lapM
  by_cases hl : lapses day m
  · rw [if_pos hl]
    obtain ⟨h1, h2, h3, h4⟩ := h
    refine ⟨⟨(by decide : (1 : Int) ≤ 6), (by decide : (6 : Int) ≤ 6), h1.2.2.1, h1.2.2.2⟩, .inr ⟨(by decide : ¬ ((6 : Int) = 2 ∨ (6 : Int) = 4)), rfl⟩, fun h => absurd h (by decide : ¬ (6 : Int) ≤ 3), fun hb => ⟨rfl, ?_⟩⟩
    have : m.f1 = 2 := by simpa using hb
    exact h3 (by omega)
  · rw [if_neg hl]
    obtain ⟨h1, h2, h3, h4⟩ := h
    refine ⟨h1, ?_, h3, h4⟩
    unfold lapses at hl
    omega
theorem Inv.adv {d ans app : Int} {hs : List Int} {ms : List S50} {all : List S52} (h : Inv d ans app hs ms all) (day : Int) (h1 : d ≤ day) (h2 : day ≤ 1048576) :
    Inv day ans app hs (ms.map (lapM day)) (all ++ sortR (ms.filterMap (lapR day))) := by
  have hd : 0 ≤ d := by
    have := h.ct
    unfold ctE at this
    split at this
    · cases this
    · omega
  refine ⟨?_, ?_, ?_, ?_, ?_⟩
  · have := h.ct
    unfold ctE at this ⊢
    split at this
    · cases this
    · rw [if_neg (by omega)]; exact this
  · intro x hx
    obtain ⟨m, hm, rfl⟩ := List.mem_map.1 hx
    have := h.ok m hm
    rw [lapM_id]
    exact ⟨this.1, this.2.1, lap_sound h1 this.2.2⟩
  · rw [List.map_map]
    have e : ((fun x : S50 => x.f0) ∘ lapM day) = (fun x => x.f0) := by funext m; exact lapM_id day m
    rw [e]
    exact h.nd
  · rw [List.map_append]
    refine (List.Perm.append h.pm ((sort_perm _).map rKey)).trans ?_
    exact lap_perm day ms
  · intro r hr
    rcases List.mem_append.1 hr with hr | hr
    · have := h.rd r hr; omega
    · have hr2 := (sort_perm _).mem_iff.1 hr
      obtain ⟨m, hm, he⟩ := List.mem_filterMap.1 hr2
      unfold lapR at he
      by_cases hl : lapses day m
      · rw [if_pos hl] at he
        obtain rfl := Option.some.inj he
        have h3 := (h.ok m hm).2.2.2.1
        have h4 := hl.1
        have h5 := hl.2
        show wrap64 (m.f2 + 1) ≤ day
        rw [w64 _ (by omega) (by omega)]
        omega
      · rw [if_neg hl] at he
        cases he
theorem Inv.new {ans app : Int} {hs : List Int} (h : ctE 0 ans app hs.length = 0) : Inv 0 ans app hs [] [] := ⟨h, (fun m hm => by cases hm), List.nodup_nil, List.Perm.refl _, (fun r hr => by cases hr)⟩
theorem fnd_split (x : Int) : ∀ (l : List S50) (i : Nat), 0 ≤ fnd x l i → ∃ A m B, l = A ++ m :: B ∧ fnd x l i = ((i + A.length : Nat) : Int) ∧ m.f0 = x
  | [], i, h => by simp [fnd] at h
  | y :: r, i, h => by
    unfold fnd at h ⊢
    by_cases he : y.f0 = x
    · rw [if_pos he]
      exact ⟨[], y, r, rfl, by simp, he⟩
    · rw [if_neg he] at h ⊢
      obtain ⟨A, m, B, rfl, h2, h3⟩ := fnd_split x r (i + 1) h
      exact ⟨y :: A, m, B, rfl, by rw [h2]; simp; omega, h3⟩
theorem add_later {hs : List Int} {day n : Int} {ad : Int × Int} (h : IsAdd hs day n ad) (hn : 1 ≤ n) (h0 : ad.2 = 0) : day < ad.1 ∧ ad.1 ≤ 1048576 := by
  unfold IsAdd at h
  by_cases h1 : (hs.length : Int) > 1000
  · rw [if_pos h1] at h; subst h; cases h0
  rw [if_neg h1] at h
  by_cases h2 : isD day = true ∧ 0 ≤ n ∧ n ≤ 1048576
  · rw [if_pos h2] at h
    have hd : 0 ≤ day := by
      have := h2.1
      unfold isD at this
      simp at this
      exact this.1
    rcases h with ⟨d, hd2, rfl, h3, h4⟩ | ⟨rfl, _⟩
    · refine ⟨?_, by show (d : Int) ≤ _; omega⟩
      unfold mOf at h3
      rw [if_neg (by omega)] at h3
      have hlt : ¬ d + 1 ≤ day.toNat + 1 := fun hle => by have := cnt_mono hs hle; omega
      show day < (d : Int)
      omega
    · cases h0
  · rw [if_neg h2] at h; subst h; cases h0
theorem chg_sound {day : Int} {m : S50} {kind due opt : Int} (h : soundP day m) (hk : 2 ≤ kind ∧ kind ≤ 6) (hst : m.f1 = kind - 1) (ho : ¬ ((kind = 4 ∨ kind = 6) ∧ (opt < 0 ∨ 4 ≤ opt)))
    (hdue : (kind = 2 ∨ kind = 4) ∧ day < due ∧ due ≤ 1048576 ∨ ¬ (kind = 2 ∨ kind = 4) ∧ due = 0) : soundP day (chgM m kind due opt) := by
  obtain ⟨h1, h2, h3, h4⟩ := h
  have hf : ¬ m.f4 = true := fun hb => by have := (h4 hb).1; omega
  unfold chgM
  by_cases hk46 : kind = 4 ∨ kind = 6
  · simp only [if_pos hk46]
    refine ⟨⟨?_, ?_, ?_, ?_⟩, ?_, ?_, fun hb => absurd hb hf⟩ <;> show _ <;> dsimp only <;> omega
  · simp only [if_neg hk46]
    refine ⟨⟨?_, ?_, ?_, ?_⟩, ?_, ?_, fun hb => absurd hb hf⟩ <;> show _ <;> dsimp only <;> omega
theorem Inv.tail {day ans app : Int} {hs : List Int} {ms : List S50} {all rl : List S52} (h : Inv day ans app hs ms (all ++ rl)) (ad : Int × Int) (kind id opt : Int) (hid : 0 ≤ id ∧ id < 4)
    (ha : IsAdd hs day (if kind = 2 then ans else app) ad) (he : (tailV ad day ans app hs ms rl kind day id opt).2.2.2.2.2.2 = 0) :
    ∃ ms2 rl2, tailV ad day ans app hs ms rl kind day id opt = (day, ans, app, hs, ms2, rl2, 0) ∧ Inv day ans app hs ms2 (all ++ rl2) := by
  have hct := h.ct
  have hans : 1 ≤ ans ∧ 1 ≤ app := by
    unfold ctE at hct
    split at hct
    · cases hct
    · split at hct
      · cases hct
      · split at hct
        · cases hct
        · omega
  unfold tailV at he ⊢
  by_cases c1 : kind < 1 ∨ 6 < kind
  · rw [if_pos c1] at he; cases he
  rw [if_neg c1] at he ⊢
  by_cases c2 : kind = 1
  · rw [if_pos c2] at he ⊢
    by_cases c3 : (openF ms id).2 = 0
    · rw [if_pos c3]
      refine ⟨_, _, rfl, ?_⟩
      unfold openF at c3 ⊢
      rw [if_neg (by omega)] at c3 ⊢
      by_cases c4 : 0 ≤ fnd id ms 0
      · rw [if_pos c4] at c3; cases c3
      rw [if_neg c4] at c3 ⊢
      by_cases c5 : (ms.length : Int) ≥ 32
      · rw [if_pos c5] at c3; cases c3
      rw [if_neg c5]
      have hno : ∀ m ∈ ms, m.f0 ≠ id := fun m hm hi => c4 (by rw [fnd_any]; exact List.any_eq_true.2 ⟨m, hm, by simpa using hi⟩)
      refine ⟨hct, fun m hm => ?_, ?_, ?_, h.rd⟩
      · rcases List.mem_append.1 hm with hm | hm
        · exact h.ok m hm
        · obtain rfl : m = ⟨id, 1, 0, 0, false⟩ := by simpa using hm
          exact ⟨hid.1, hid.2, ⟨(by decide : (1 : Int) ≤ 1), (by decide : (1 : Int) ≤ 6), (by decide : (0 : Int) ≤ 0), (by decide : (0 : Int) < 4)⟩, .inr ⟨(by decide : ¬ ((1 : Int) = 2 ∨ (1 : Int) = 4)), rfl⟩, fun _ => rfl, fun hb => by cases hb⟩
      · simp only [List.map_append, List.map_cons, List.map_nil]
        rw [List.nodup_append]
        refine ⟨h.nd, by simp, fun x hx y hy => ?_⟩
        obtain ⟨m, hm, rfl⟩ := List.mem_map.1 hx
        obtain rfl : y = id := by simpa using hy
        exact hno m hm
      · have e : (ms ++ [(⟨id, 1, 0, 0, false⟩ : S50)]).filter isFin = ms.filter isFin := by
          rw [List.filter_append]
          have : [(⟨id, 1, 0, 0, false⟩ : S50)].filter isFin = [] := rfl
          rw [this, List.append_nil]
        show (_ : List (Int × Int)).Perm (((ms ++ [(⟨id, 1, 0, 0, false⟩ : S50)]).filter isFin).map mKey)
        rw [e]
        exact h.pm
    · rw [if_neg c3] at he
      exact absurd he c3
  rw [if_neg c2] at he ⊢
  by_cases c3 : fnd id ms 0 < 0
  · rw [if_pos c3] at he; cases he
  rw [if_neg c3] at he ⊢
  obtain ⟨A, m, B, hms, hf, hm0⟩ := fnd_split id ms 0 (by omega)
  rw [Nat.zero_add] at hf
  have hmem : m ∈ ms := by rw [hms]; simp
  have hrd : rd_T50 ms (fnd id ms 0) = m := by rw [hf, hms]; exact rd_mid A B m
  rw [hrd] at he ⊢
  by_cases c4 : m.f1 ≠ kind - 1
  · rw [if_pos c4] at he; cases he
  rw [if_neg c4] at he ⊢
  by_cases c5 : (kind = 4 ∨ kind = 6) ∧ (opt < 0 ∨ 4 ≤ opt)
  · rw [if_pos c5] at he; cases he
  rw [if_neg c5] at he ⊢
  have hb0 : (if kind = 2 ∨ kind = 4 then ad else (0, 0)).2 = 0 → (kind = 2 ∨ kind = 4) ∧ day < (if kind = 2 ∨ kind = 4 then ad else (0, 0)).1 ∧ (if kind = 2 ∨ kind = 4 then ad else (0, 0)).1 ≤ 1048576 ∨ ¬ (kind = 2 ∨ kind = 4) ∧ (if kind = 2 ∨ kind = 4 then ad else (0, 0)).1 = 0 := by
    by_cases c6 : kind = 2 ∨ kind = 4
    · rw [if_pos c6]
      intro h0
      exact .inl ⟨c6, add_later ha (by split <;> omega) h0⟩
    · rw [if_neg c6]
      intro _
      exact .inr ⟨c6, rfl⟩
  generalize (if kind = 2 ∨ kind = 4 then ad else (0, 0)) = b at *
  unfold chgV at he ⊢
  by_cases c7 : b.2 ≠ 0
  · rw [if_pos c7] at he; exact absurd he c7
  rw [if_neg c7]
  have hs := chg_sound (m := m) (kind := kind) (due := b.1) (opt := opt) (h.ok m hmem).2.2 (by omega) (by omega) c5 (hb0 (by omega))
  have hset : ms.set (fnd id ms 0).toNat (chgM m kind b.1 opt) = A ++ chgM m kind b.1 opt :: B := by rw [hf, hms]; exact set_mid A B m _
  rw [hrd, hset]
  have hok : ∀ x ∈ A ++ chgM m kind b.1 opt :: B, 0 ≤ x.f0 ∧ x.f0 < 4 ∧ soundP day x := by
    intro x hx
    rcases List.mem_append.1 hx with hx | hx
    · exact h.ok x (by rw [hms]; simp [hx])
    · rcases List.mem_cons.1 hx with rfl | hx
      · have := h.ok m hmem
        exact ⟨this.1, this.2.1, hs⟩
      · exact h.ok x (by rw [hms]; simp [hx])
  have hnd : ((A ++ chgM m kind b.1 opt :: B).map (·.f0)).Nodup := by
    have := h.nd
    rw [hms] at this
    simpa [chgM] using this
  have hmf : isFin m = false := by unfold isFin; simp; omega
  have hold : ms.filter isFin = A.filter isFin ++ B.filter isFin := by rw [hms, List.filter_append, List.filter_cons_of_neg (by simp [hmf])]
  refine ⟨_, _, rfl, ?_⟩
  by_cases c8 : kind = 6
  · rw [if_pos c8]
    refine ⟨hct, hok, hnd, ?_, fun r hr => ?_⟩
    · have e : (A ++ chgM m kind b.1 opt :: B).filter isFin = A.filter isFin ++ chgM m kind b.1 opt :: B.filter isFin := by
        rw [List.filter_append, List.filter_cons_of_pos (by unfold isFin chgM; simpa using c8)]
      have hk : mKey (chgM m kind b.1 opt) = rKey ⟨id, day, opt⟩ := by
        unfold mKey rKey chgM
        simp only [if_pos (Or.inr c8), hm0]
      have l1 : (all ++ (rl ++ [(⟨id, day, opt⟩ : S52)])).map rKey = (all ++ rl).map rKey ++ [rKey ⟨id, day, opt⟩] := by simp
      have l2 : (A.filter isFin ++ chgM m kind b.1 opt :: B.filter isFin).map mKey = (A.filter isFin).map mKey ++ mKey (chgM m kind b.1 opt) :: (B.filter isFin).map mKey := by simp
      rw [e, l1, l2, hk]
      have hp := h.pm
      rw [hold] at hp
      refine (List.Perm.append_right _ hp).trans ?_
      rw [List.map_append]
      rw [List.append_assoc]
      refine List.Perm.append_left _ ?_
      exact List.perm_append_singleton _ _
    · rw [← List.append_assoc] at hr
      rcases List.mem_append.1 hr with hr | hr
      · exact h.rd r hr
      · obtain rfl : r = ⟨id, day, opt⟩ := by simpa using hr
        exact Int.le_refl _
  · rw [if_neg c8]
    refine ⟨hct, hok, hnd, ?_, h.rd⟩
    have e : (A ++ chgM m kind b.1 opt :: B).filter isFin = A.filter isFin ++ B.filter isFin := by
      rw [List.filter_append, List.filter_cons_of_neg (by unfold isFin chgM; simpa using c8)]
    rw [e, ← hold]
    exact h.pm
theorem Inv.file {d ans app : Int} {hs : List Int} {ms : List S50} {all : List S52} (h : Inv d ans app hs ms all) (ad : Int × Int) (kind at_ id opt : Int) (hid : 0 ≤ id ∧ id < 4)
    (ha : IsAdd hs at_ (if kind = 2 then ans else app) ad) (he : (fileV ad d ans app hs ms kind at_ id opt).2.2.2.2.2.2 = 0) :
    ∃ ms2 rl2, fileV ad d ans app hs ms kind at_ id opt = (at_, ans, app, hs, ms2, rl2, 0) ∧ Inv at_ ans app hs ms2 (all ++ rl2) ∧ d ≤ at_ ∧ at_ ≤ 1048576 := by
  unfold fileV at he ⊢
  rcases advV_cases d ans app hs ms at_ with ⟨e0, e1, e2, e3, e4, e5⟩ | ⟨e0, e1⟩
  · rw [if_pos e0] at he ⊢
    obtain ⟨ms2, rl2, h1, h2⟩ := (h.adv at_ e5 e4).tail ad kind id opt hid ha he
    exact ⟨ms2, rl2, h1, h2, e5, e4⟩
  · rw [if_neg e0] at he
    exact absurd he e0
end Go.Proofs.Ytpfiecjacpbhkaa.D

namespace Go.Proofs.Ytpfiecjacpbhkaa.D
open Go.RowKit Go.Proofs.YtpfiecjacpbhkaaW.PrintWords Go.Proofs.YtpfiecjacpbhkaaW.PrintLast Go.Proofs.YtpfiecjacpbhkaaW.PrintMore Hx Hm
set_option linter.unusedVariables false
set_option linter.unusedSimpArgs false
theorem u8_of {a : Int} (h : (Lit.int .u8 a).wf = true) : 0 ≤ a ∧ a < 256 := by
  simp [Lit.wf, IntKind.min, IntKind.max, IntKind.signed, IntKind.bits] at h
  omega
theorem tm (a n : Int) (h : 0 ≤ a ∧ a < 256) (hn : 0 < n ∧ n < 1000) : wrap64 (Int.tmod a n) = a % n := by
  rw [tmod_pos _ _ h.1, w64 _ (by have := Int.emod_nonneg a (show n ≠ 0 by omega); omega) (by have := Int.emod_lt_of_pos a hn.1; omega)]
theorem terms_loop (l : List Int) (x y : Int) : ∀ (n i : Nat) (acc : List Int), i ≤ 6 → 6 - i = n → acc.length ≤ i → ∃ hs, Ev (fun k => insolvencylaw0_Terms.l0 k l (i : Int) x y acc) (x, y, hs) ∧ hs.length ≤ 6
  | 0, i, acc, h1, h2, h3 => by
    by_cases hl : (i : Int) < (l.length : Int)
    · exact ⟨acc, Ev.step (fun k => rfl) (ev_if hl (ev_else (by omega) (Ev.now _))), by omega⟩
    · exact ⟨acc, Ev.step (fun k => rfl) (ev_else hl (Ev.now _)), by omega⟩
  | n + 1, i, acc, h1, h2, h3 => by
    by_cases hl : (i : Int) < (l.length : Int)
    · obtain ⟨hs, h4, h5⟩ := terms_loop l x y n (i + 1) (acc ++ [wrap64 (Int.tmod (rd l (i : Int)) 60)]) (by omega) (by omega) (by simp; omega)
      refine ⟨hs, Ev.step (fun k => rfl) (ev_if hl (ev_if (by omega) (ev_if (by omega) (ev_if (by omega) ?_)))), h5⟩
      rw [w64 _ (by omega) (by omega), show (i : Int) + 1 = ((i + 1 : Nat) : Int) by omega]
      exact h4
    · exact ⟨acc, Ev.step (fun k => rfl) (ev_else hl (Ev.now _)), by omega⟩
theorem terms_ev (a b : Int) (l : List Int) (ha : 0 ≤ a ∧ a < 256) (hb : 0 ≤ b ∧ b < 256) : ∃ hs, Ev (fun k => insolvencylaw0_Terms.f k a b l) (1 + a % 8, 1 + b % 8, hs) ∧ hs.length ≤ 6 ∧ ∀ d, 0 ≤ d → d ≤ 1048576 → ctE d (1 + a % 8) (1 + b % 8) hs.length = 0 := by
  unfold insolvencylaw0_Terms.f
  rw [tm a 8 ha (by omega), tm b 8 hb (by omega), w64 (1 + a % 8) (by omega) (by omega), w64 (1 + b % 8) (by omega) (by omega)]
  obtain ⟨hs, h1, h2⟩ := terms_loop l (1 + a % 8) (1 + b % 8) 6 0 [] (by omega) rfl (by simp)
  refine ⟨hs, h1, h2, fun d h3 h4 => ?_⟩
  unfold ctE
  rw [if_neg (by omega), if_neg (by omega), if_neg (by omega)]
theorem mat_props : ∀ (l : List S83) (day : Int) (st : Int → Int), (∀ x ∈ l, Ho.ok83 x) → 0 ≤ day → day + 3 * l.length ≤ 1000000 → ∀ y ∈ matGo l day st, (0 ≤ y.f2 ∧ y.f2 < 4) ∧ 0 ≤ y.f1 ∧ y.f1 ≤ day + 3 * l.length
  | [], day, st, h, h0, h1, y, hy => by cases hy
  | x :: r, day, st, h, h0, h1, y, hy => by
    obtain ⟨w0, w1, w2, w3⟩ := h x (by simp)
    have q1 := tm x.f1 4 (u8_of w1) (by omega)
    have q2 := tm x.f2 4 (u8_of w2) (by omega)
    have hlen : ((x :: r).length : Int) = (r.length : Int) + 1 := by simp
    rw [hlen] at h1 ⊢
    unfold matGo at hy
    rw [q1, q2, w64 (day + x.f1 % 4) (by omega) (by omega)] at hy
    have ih := fun st' hy' => mat_props r (day + x.f1 % 4) st' (fun z hz => h z (by simp [hz])) (by omega) (by omega) y hy'
    by_cases c : 6 ≤ st (x.f2 % 4)
    · rw [if_pos c] at hy
      have := ih _ hy
      omega
    · rw [if_neg c] at hy
      rcases List.mem_cons.1 hy with rfl | hy
      · refine ⟨?_, ?_, ?_⟩ <;> dsimp only <;> omega
      · have := ih _ hy
        omega
theorem mat_len : ∀ (l : List S83) (day : Int) (st : Int → Int), (matGo l day st).length ≤ l.length
  | [], _, _ => Nat.le_refl _
  | x :: r, day, st => by
    unfold matGo
    split
    · have := mat_len r (wrap64 (day + wrap64 (Int.tmod x.f1 4))) st
      simp; omega
    · have := mat_len r (wrap64 (day + wrap64 (Int.tmod x.f1 4))) (fun i => if i = wrap64 (Int.tmod x.f2 4) then wrap64 (st (wrap64 (Int.tmod x.f2 4)) + 1) else st i)
      simp; omega
theorem mats_ev (l : List S83) (h : ∀ x ∈ l, Ho.ok83 x) : ∃ fl, Ev (fun k => law0_Matters.f k l) fl ∧ fl.length ≤ 24 ∧ ∀ y ∈ fl, (0 ≤ y.f2 ∧ y.f2 < 4) ∧ 0 ≤ y.f1 ∧ y.f1 ≤ 72 := by
  have hl : (l.take 24).length ≤ 24 := by rw [List.length_take]; omega
  refine ⟨_, Ev.now _, Nat.le_trans (mat_len _ _ _) hl, fun y hy => ?_⟩
  have := mat_props (l.take 24) 0 (fun _ => 0) (fun x hx => h x (List.mem_of_mem_take hx)) (by omega) (by omega) y hy
  omega
end Go.Proofs.Ytpfiecjacpbhkaa.D

namespace Go.Proofs.Ytpfiecjacpbhkaa.D
open Go.RowKit Go.Proofs.YtpfiecjacpbhkaaW.PrintWords Go.Proofs.YtpfiecjacpbhkaaW.PrintLast Go.Proofs.YtpfiecjacpbhkaaW.PrintMore Hx Hm Go.Shelf Go.Sort
set_option linter.unusedVariables false
set_option linter.unusedSimpArgs false
def leR (x y : S52) : Prop := ¬ (y.f1 < x.f1 ∨ y.f1 = x.f1 ∧ y.f0 < x.f0)
theorem gtR_iff (x r : S52) : (gtR x r = true) ↔ ¬ leR x r := by
  unfold gtR leR
  simp
  omega
theorem shR_get (p : Nat) : ∀ (j : Nat) (L : List S52), j < L.length → ∀ k : Nat, (shR L p j)[k]? = if p < k ∧ k ≤ j then L[k - 1]? else L[k]?
  | 0, L, h, k => by
    rw [shR, if_neg (by omega)]
  | j + 1, L, h, k => by
    unfold shR
    by_cases c : p < j + 1
    · rw [if_pos c, shR_get p j _ (by rw [List.length_set]; omega) k]
      have e : rd_T52 L (j : Int) = L[j] := by
        unfold rd_T52
        rw [Int.toNat_natCast, List.getD_eq_getElem?_getD, List.getElem?_eq_getElem (by omega)]
        rfl
      rw [e]
      by_cases c1 : p < k ∧ k ≤ j
      · rw [if_pos c1, if_pos (by omega), List.getElem?_set_ne (by omega)]
      · rw [if_neg c1]
        by_cases c2 : k = j + 1
        · subst c2
          rw [if_pos (by omega), List.getElem?_set_self (by omega), Nat.add_sub_cancel, List.getElem?_eq_getElem (by omega)]
        · rw [if_neg (by omega), List.getElem?_set_ne (by omega)]
    · rw [if_neg c, if_neg (by omega)]
theorem insR_eq (l : List S52) (r : S52) : insR l r = l.take (posR l r l.length) ++ r :: l.drop (posR l r l.length) := by
  have hp := posR_le l r l.length
  unfold insR
  generalize posR l r l.length = p at *
  apply List.ext_getElem?
  intro k
  rw [List.getElem?_set, shR_length]
  by_cases c : p = k
  · subst c
    rw [if_pos rfl, if_pos (by simp; omega), List.getElem?_append_right (by rw [List.length_take]; omega), List.length_take, Nat.min_eq_left hp, Nat.sub_self]
    rfl
  · rw [if_neg c, shR_get p l.length _ (by simp)]
    by_cases c1 : p < k ∧ k ≤ l.length
    · rw [if_pos c1, List.getElem?_append_left (by omega), List.getElem?_append_right (by rw [List.length_take]; omega), List.length_take, Nat.min_eq_left hp]
      obtain ⟨m, rfl⟩ : ∃ m, k = p + m + 1 := ⟨k - p - 1, by omega⟩
      rw [show p + m + 1 - p = m + 1 by omega, List.getElem?_cons_succ, List.getElem?_drop, show p + m + 1 - 1 = p + m by omega]
    · rw [if_neg c1]
      by_cases c2 : k < p
      · rw [List.getElem?_append_left (by omega), List.getElem?_append_left (by rw [List.length_take]; omega), List.getElem?_take_of_lt c2]
      · rw [List.getElem?_eq_none (by simp; omega), List.getElem?_eq_none (by simp; omega)]
theorem insR_perm (l : List S52) (r : S52) : (insR l r).Perm (l ++ [r]) := by
  rw [insR_eq]
  refine List.perm_middle.trans ?_
  rw [List.take_append_drop]
  exact (List.perm_append_singleton r l).symm
theorem posR_spec (l : List S52) (r : S52) : ∀ k, k ≤ l.length → (∀ j (h : j < l.length), posR l r k ≤ j → j < k → ¬ leR l[j] r) ∧ ∀ (h : posR l r k - 1 < l.length), 0 < posR l r k → leR l[posR l r k - 1] r
  | 0, hk => by
    rw [posR]
    exact ⟨fun j h h1 h2 => by omega, fun h h0 => by omega⟩
  | k + 1, hk => by
    have e : rd_T52 l (k : Int) = l[k] := by
      unfold rd_T52
      rw [Int.toNat_natCast, List.getD_eq_getElem?_getD, List.getElem?_eq_getElem (by omega)]
      rfl
    by_cases c : gtR l[k] r = true
    · have hp : posR l r (k + 1) = posR l r k := by rw [posR, e, if_pos c]
      rw [hp]
      have ih := posR_spec l r k (by omega)
      refine ⟨fun j h h1 h2 => ?_, ih.2⟩
      by_cases c2 : j = k
      · subst c2
        exact (gtR_iff _ _).1 c
      · exact ih.1 j h h1 (by omega)
    · have hp : posR l r (k + 1) = k + 1 := by rw [posR, e, if_neg c]
      rw [hp]
      refine ⟨fun j h h1 h2 => by omega, fun h h0 => ?_⟩
      rw [gtR_iff] at c
      simp only [Nat.add_sub_cancel]
      exact Classical.not_not.1 c
theorem leR_trans {x y z : S52} (h1 : leR x y) (h2 : leR y z) : leR x z := by
  unfold leR at *
  omega
theorem leR_total {x y : S52} (h : ¬ leR x y) : leR y x := by
  unfold leR at *
  omega
theorem insR_sorted (l : List S52) (r : S52) (h : l.Pairwise leR) : (insR l r).Pairwise leR := by
  rw [insR_eq]
  have hp := posR_le l r l.length
  have hs := posR_spec l r l.length (Nat.le_refl _)
  generalize posR l r l.length = p at *
  have hl : ∀ x ∈ l.take p, leR x r := by
    intro x hx
    obtain ⟨j, hj, rfl⟩ := List.mem_iff_getElem.1 hx
    rw [List.length_take] at hj
    rw [List.getElem_take]
    have h1 := hs.2 (by omega) (by omega)
    by_cases c : j = p - 1
    · subst c; exact h1
    · exact leR_trans ((List.pairwise_iff_getElem.1 h) j (p - 1) (by omega) (by omega) (by omega)) h1
  have hr : ∀ y ∈ l.drop p, leR r y := by
    intro y hy
    obtain ⟨j, hj, rfl⟩ := List.mem_iff_getElem.1 hy
    rw [List.length_drop] at hj
    rw [List.getElem_drop]
    exact leR_total (hs.1 (p + j) (by omega) (by omega) (by omega))
  rw [List.pairwise_append, List.pairwise_cons]
  refine ⟨h.sublist (List.take_sublist _ _), ⟨hr, h.sublist (List.drop_sublist _ _)⟩, fun x hx y hy => ?_⟩
  rcases List.mem_cons.1 hy with rfl | hy
  · exact hl x hx
  · exact leR_trans (hl x hx) (hr y hy)
theorem sortR_sorted (l : List S52) : (sortR l).Pairwise leR := by
  have h := (Go.Sort.insertionSort_holds (lt := ltOf rulCmp) rul_swo l.toArray 0 l.length (Nat.zero_le _) (by simp))
  unfold sortR
  have h2 : (Sort.insertionSort (ltOf rulCmp) l.toArray 0 l.length).size = l.length := by simpa using h.1.1
  have h3 := h.2
  generalize Sort.insertionSort (ltOf rulCmp) l.toArray 0 l.length = S at *
  rw [List.pairwise_iff_getElem]
  intro i j hi hj hij
  have h4 := h3 i j (Nat.zero_le _) hij (by rw [← h2]; simpa using hj)
  rw [rul_lt, decide_eq_false_iff_not] at h4
  have e1 : S[i]! = S.toList[i] := by rw [getElem!_pos S i (by simpa using hi)]; rfl
  have e2 : S[j]! = S.toList[j] := by rw [getElem!_pos S j (by simpa using hj)]; rfl
  rw [e1, e2] at h4
  exact h4
theorem sort_unique (l1 l2 : List S52) (hp : l1.Perm l2) (h1 : l1.Pairwise leR) (h2 : l2.Pairwise leR) (hn : (l1.map (·.f0)).Nodup) : l1 = l2 := by
  refine List.Perm.eq_of_pairwise (le := leR) (fun a b ha hb hab hba => ?_) h1 h2 hp
  have he : a.f0 = b.f0 := by unfold leR at hab hba; omega
  have hb1 := hp.mem_iff.2 hb
  clear hab hba h1 h2 hp hb
  induction l1 with
  | nil => cases ha
  | cons x r ih =>
    rw [List.map_cons, List.nodup_cons] at hn
    rcases List.mem_cons.1 ha with e1 | ha' <;> rcases List.mem_cons.1 hb1 with e2 | hb'
    · rw [e1, e2]
    · exact (hn.1 (List.mem_map.2 ⟨b, hb', by rw [← he, e1]⟩)).elim
    · exact (hn.1 (List.mem_map.2 ⟨a, ha', by rw [he, e2]⟩)).elim
    · exact ih hn.2 ha' hb'
theorem insAll (rest : List S52) : ∀ l : List S52, l.Pairwise leR → (rest.foldl insR l).Pairwise leR ∧ (rest.foldl insR l).Perm (l ++ rest) := by
  induction rest with
  | nil => exact fun l h => ⟨h, by simp⟩
  | cons r rest ih =>
    intro l h
    obtain ⟨h1, h2⟩ := ih (insR l r) (insR_sorted l r h)
    refine ⟨h1, h2.trans ?_⟩
    have := (insR_perm l r).append_right rest
    simpa using this
theorem lapGo_eq (day : Int) : ∀ (rest done : List S50) (l : List S52), lapGo day rest.length (done ++ rest) l done.length = (done ++ rest.map (lapM day), (rest.filterMap (lapR day)).foldl insR l)
  | [], done, l => by simp [lapGo]
  | m :: r, done, l => by
    rw [List.length_cons, lapGo, rd_mid]
    by_cases h : lapses day m
    · have e : lapses2 day m = true := by
        unfold lapses2
        rw [decide_eq_true h.2, Bool.and_true]
        have := h.1
        simpa using this
      have e1 : lapR day m = some (lapR2 m) := if_pos h
      have e2 : lapM day m = lapM2 day m := if_pos h
      have es : (done ++ m :: r).set done.length (lapM2 day m) = (done ++ [lapM2 day m]) ++ r := by
        have := set_mid done r m (lapM2 day m)
        rw [Int.toNat_natCast] at this
        rw [this]
        simp
      have ih := lapGo_eq day r (done ++ [lapM2 day m]) (insR l (lapR2 m))
      rw [List.length_append] at ih
      rw [if_pos e, es, List.filterMap_cons, e1, List.map_cons, e2, List.foldl_cons]
      simpa using ih
    · have e : lapses2 day m = false := by
        unfold lapses2
        unfold lapses at h
        by_cases h1 : m.f1 = 2 ∨ m.f1 = 4
        · have : ¬ m.f2 < day := fun h2 => h ⟨h1, h2⟩
          rw [decide_eq_false this, Bool.and_false]
        · have : (m.f1 == 2 || m.f1 == 4) = false := by simpa using h1
          rw [this, Bool.false_and]
      have e1 : lapR day m = none := if_neg h
      have e2 : lapM day m = m := if_neg h
      have ih := lapGo_eq day r (done ++ [m]) l
      rw [List.length_append] at ih
      rw [e, if_neg (by decide), List.filterMap_cons, e1, List.map_cons, e2]
      simpa using ih
theorem lap_nodup (day : Int) : ∀ ms : List S50, (ms.map (·.f0)).Nodup → ((ms.filterMap (lapR day)).map (·.f0)).Nodup
  | [], _ => by simp
  | m :: r, h => by
    rw [List.map_cons, List.nodup_cons] at h
    have ih := lap_nodup day r h.2
    by_cases hl : lapses day m
    · have e1 : lapR day m = some ⟨m.f0, wrap64 (m.f2 + 1), m.f3⟩ := if_pos hl
      rw [List.filterMap_cons, e1, List.map_cons, List.nodup_cons]
      refine ⟨fun hm => ?_, ih⟩
      obtain ⟨x, hx, he⟩ := List.mem_map.1 hm
      obtain ⟨y, hy, hy2⟩ := List.mem_filterMap.1 hx
      unfold lapR at hy2
      split at hy2
      · obtain rfl := Option.some.inj hy2
        exact h.1 (List.mem_map.2 ⟨y, hy, he⟩)
      · cases hy2
    · have e1 : lapR day m = none := if_neg hl
      rw [List.filterMap_cons, e1]
      exact ih
theorem lapsed_some (k : Nat) (d ans app : Int) (hs : List Int) (ms : List S50) (day : Int) (h1 : hs.length < 1000000) (h2 : ms.length < 1000000) (hn : (ms.map (·.f0)).Nodup) :
    insolvencyref33_lapsed.f k d ans app hs ms day = some (day, ans, app, hs, ms.map (lapM day), sortR (ms.filterMap (lapR day))) := by
  unfold insolvencyref33_lapsed.f
  rw [if_pos ⟨h1, h2⟩]
  have e := lapGo_eq day ms [] []
  rw [List.nil_append, List.length_nil] at e
  rw [e]
  obtain ⟨i1, i2⟩ := insAll (ms.filterMap (lapR day)) [] List.Pairwise.nil
  rw [List.nil_append] at i2
  have : (ms.filterMap (lapR day)).foldl insR [] = sortR (ms.filterMap (lapR day)) := by
    refine sort_unique _ _ (i2.trans (sort_perm _).symm) i1 (sortR_sorted _) ?_
    exact (i2.map (·.f0)).nodup_iff.2 (lap_nodup day ms hn)
  rw [this]
  simp
end Go.Proofs.Ytpfiecjacpbhkaa.D

namespace Go.Proofs.Ytpfiecjacpbhkaa.D
open Go.RowKit Go.Proofs.YtpfiecjacpbhkaaW.PrintWords Go.Proofs.YtpfiecjacpbhkaaW.PrintLast Go.Proofs.YtpfiecjacpbhkaaW.PrintMore
attribute [local go_sem] max2_int min2_int max_two min_two max_three min_three max_four min_four
set_option linter.unusedVariables false
set_option linter.unusedSimpArgs false
attribute [local go_sem high] eqA52
def insolvencyref33_SameRulings.l0 : Nat → List (S52) → List (S52) → Int → Option (Bool)
 | 0, _, _, _ => none
 | k + 1, x0, x1, x5 => if x5 < (x0.length : Int) then (if 0 ≤ x5 then (if x5 < (x1.length : Int) then (if (!(((rd_T52 x0 x5).f0) == ((rd_T52 x1 x5).f0)) || (!(((rd_T52 x0 x5).f1) == ((rd_T52 x1 x5).f1)) || (!(((rd_T52 x0 x5).f2) == ((rd_T52 x1 x5).f2))))) = true then (none) else (insolvencyref33_SameRulings.l0 k x0 x1 (wrap64 (x5 + 1)))) else (none)) else (none)) else (some true)
def insolvencyref33_SameRulings.f (k : Nat) (l0 : List (S52)) (l1 : List (S52)) : Option (Bool) := if (l0.length : Int) = (l1.length : Int) then (insolvencyref33_SameRulings.l0 k l0 l1 0) else (none)
theorem insolvencyref33_SameRulings.mono_l : ∀ k, (∀ y0 y1 y2, LeO (insolvencyref33_SameRulings.l0 k y0 y1 y2) (insolvencyref33_SameRulings.l0 (k + 1) y0 y1 y2))
 | 0 => fun _ _ _ r h => by simp [insolvencyref33_SameRulings.l0] at h
 | k + 1 => by
  have ih0 := insolvencyref33_SameRulings.mono_l k
  ·intro y0 y1 y2
   unfold insolvencyref33_SameRulings.l0
   repeat' first
   | (with_reducible exact ih0 _ _ _)
   | (with_reducible exact LeO.refl _)
   | (with_reducible exact LeO.none _)
   | (with_reducible refine LeO.ite ?_ ?_)
   | (with_reducible refine LeO.bind ?_ (fun _ => ?_))
   | exact ih0 _ _ _
   | exact LeO.none _
   | refine LeO.ite ?_ ?_
   | refine LeO.bind ?_ (fun _ => ?_)
theorem insolvencyref33_SameRulings.mono : ∀ a0 a1 k, LeO (insolvencyref33_SameRulings.f k a0 a1) (insolvencyref33_SameRulings.f (k + 1) a0 a1) := by
 intro a0 a1 k
 have ih0 := insolvencyref33_SameRulings.mono_l k
 unfold insolvencyref33_SameRulings.f
 repeat' first
   | (with_reducible exact ih0 _ _ _)
   | (with_reducible exact LeO.refl _)
   | (with_reducible exact LeO.none _)
   | (with_reducible refine LeO.ite ?_ ?_)
   | (with_reducible refine LeO.bind ?_ (fun _ => ?_))
   | exact ih0 _ _ _
   | exact LeO.none _
   | refine LeO.ite ?_ ?_
   | refine LeO.bind ?_ (fun _ => ?_)
set_option maxHeartbeats 8000000 in
set_option maxRecDepth 100000 in
theorem insolvencyref33_SameRulings.calls (k : Nat) (A0 : Option Addr) (c0 : Nat) (l0 : List (S52)) (A1 : Option Addr) (c1 : Nat) (l1 : List (S52)) (r : Bool) (w : World) (hr0 : Kd.C k52 w A0 l0.length l0) (hc0 : l0.length ≤ c0) (hr1 : Kd.C k52 w A1 l1.length l1) (hc1 : l1.length ≤ c1) (h : insolvencyref33_SameRulings.f k l0 l1 = some r) :
  Calls Try.prog 16 #[.slice A0 l0.length c0, .slice A1 l1.length c1] w fun e w' => e = .returned (.bool r) ∧ Drawn0 w w' := by
 have hu52 := Try.underlying52
 have HR0 := Aside0.mk hr0
 have HC0 := Aside0.mk hc0
 clear hr0 hc0
 have HR1 := Aside0.mk hr1
 have HC1 := Aside0.mk hc1
 clear hr1 hc1
 have H : (if (l0.length : Int) = (l1.length : Int) then (insolvencyref33_SameRulings.l0 k l0 l1 0) else (none)) = some r := h
 clear h
 by_cases c3 : (l0.length : Int) = (l1.length : Int)
 ·rw [if_pos c3] at H
  have c3b0 : ((l0.length : Int) == (l1.length : Int)) = true := beq_iff_eq.mpr c3
  have c3b1 : ((l0.length : Int) != (l1.length : Int)) = false := bne_eq_false_iff_eq.mpr c3
  have c3b2 : (l0.length == l1.length) = true := by first | simpa using c3 | (simp at c3 ⊢; omega)
  clear c3
  have H' := Aside0.mk H
  clear H
  go_enter Try.func16, Try.ntmps16
  go_wp2
  repeat (go_quiet (fail); try go_wp2)
  go_loopg [5] k (fun kq v5 w' => ∃ (x5_1 : Int), v5 = .int .i64 x5_1 ∧ Aside0 (insolvencyref33_SameRulings.l0 kq l0 l1 x5_1 = some r) ∧ Aside0 (kq ≤ k) ∧ Drawn0 w w')
  case atStart => exact ⟨(0), (by first | rfl | (simp; done) | (simp [*]; done)), H', ⟨Nat.le_refl _⟩, by repeat (first | exact Drawn0.refl _ | apply Drawn0.step)⟩
  case round =>
   clear H'
   try clear c1
   try clear p2
   try clear c3
   try clear c3b0
   try clear c3b1
   try clear c3b2
   obtain ⟨x5_1, rfl, HA, HK1, ⟨m1, rfl⟩⟩ := hrel
   cases gk with
   | zero => exact absurd HA.out (by simp [insolvencyref33_SameRulings.l0])
   | succ k1 =>
    have H := HA.out
    clear HA
    simp only [insolvencyref33_SameRulings.l0] at H
    by_cases c4 : x5_1 < (l0.length : Int)
    ·rw [if_pos c4] at H
     have c4b0 : decide (x5_1 < (l0.length : Int)) = true := decide_eq_true c4
     clear c4
     by_cases c5 : 0 ≤ x5_1
     ·rw [if_pos c5] at H
      have c5b0 : decide (0 ≤ x5_1) = true := decide_eq_true c5
      clear c5
      by_cases c6 : x5_1 < (l1.length : Int)
      ·rw [if_pos c6] at H
       have c6b0 : decide (x5_1 < (l1.length : Int)) = true := decide_eq_true c6
       clear c6
       by_cases c7 : (!(((rd_T52 l0 x5_1).f0) == ((rd_T52 l1 x5_1).f0)) || (!(((rd_T52 l0 x5_1).f1) == ((rd_T52 l1 x5_1).f1)) || (!(((rd_T52 l0 x5_1).f2) == ((rd_T52 l1 x5_1).f2))))) = true
       ·rw [if_pos c7] at H
        exact absurd H (by simp)
       ·rw [if_neg c7] at H
        have c7b0 : (!(((rd_T52 l0 x5_1).f0) == ((rd_T52 l1 x5_1).f0)) || (!(((rd_T52 l0 x5_1).f1) == ((rd_T52 l1 x5_1).f1)) || (!(((rd_T52 l0 x5_1).f2) == ((rd_T52 l1 x5_1).f2))))) = false := by simpa using c7
        clear c7
        have H' := Aside0.mk H
        clear H
        have p431 : 0 ≤ (x5_1 : Int) := of_decide_eq_true (by first | (with_reducible assumption) | assumption)
        have q431 : x5_1 < (l0.length : Int) := of_decide_eq_true (by first | (with_reducible assumption) | assumption)
        obtain ⟨ad431, e431, hx431_0, hx431_1, hx431_2⟩ := at_T52 HR0.out x5_1 p431 q431
        cases e431
        replace p431 := eq_true p431
        replace q431 := eq_true q431
        have p432 : 0 ≤ (x5_1 : Int) := of_decide_eq_true (by first | (with_reducible assumption) | assumption)
        have q432 : x5_1 < (l1.length : Int) := of_decide_eq_true (by first | (with_reducible assumption) | assumption)
        obtain ⟨ad432, e432, hx432_0, hx432_1, hx432_2⟩ := at_T52 HR1.out x5_1 p432 q432
        cases e432
        replace p432 := eq_true p432
        replace q432 := eq_true q432
        go_wp2
        repeat (go_quiet (fail); try go_wp2)
        go_roundg k1
        case measure => have := HK1.out; omega
        case rel => exact ⟨(wrap64 (x5_1 + 1)), (by first | rfl | (simp; done) | (simp [*]; done)), H', ⟨by have := HK1.out; omega⟩, by repeat (first | exact Drawn0.refl _ | apply Drawn0.step)⟩
      ·rw [if_neg c6] at H
       exact absurd H (by simp)
     ·rw [if_neg c5] at H
      exact absurd H (by simp)
    ·rw [if_neg c4] at H
     have c4b0 : decide (x5_1 < (l0.length : Int)) = false := decide_eq_false c4
     clear c4
     obtain rfl := Option.some.inj H
     go_wp2
     repeat (go_quiet (fail); try go_wp2)
     go_ret
     exact ⟨by first | rfl | (simp; done) | (simp [*]; done), by repeat (first | exact Drawn0.refl _ | apply Drawn0.step)⟩
 ·rw [if_neg c3] at H
  exact absurd H (by simp)
end Go.Proofs.Ytpfiecjacpbhkaa.D

namespace Go.Proofs.Ytpfiecjacpbhkaa.D
open Go.RowKit Go.Proofs.YtpfiecjacpbhkaaW.PrintWords Go.Proofs.YtpfiecjacpbhkaaW.PrintLast Go.Proofs.YtpfiecjacpbhkaaW.PrintMore Hx Hm
set_option linter.unusedVariables false
set_option linter.unusedSimpArgs false
theorem runs_some (a b c d : Int) (e : Bool) : insolvencyref33_runs.f a b c d e = some (b == 2 || b == 4) := running_some a b c d e
theorem option_ev (o : Int) : insolvencyref33_option.f o = some (decide (0 ≤ o ∧ o < 4)) := by
  unfold insolvencyref33_option.f
  by_cases h : o ≥ 0
  · rw [if_pos h]
    by_cases h2 : o < 4
    · simp [h2, h]
    · simp [h2]
  · rw [if_neg h]
    simp; omega
theorem bad_ev (d ans app : Int) (hs : List Int) (ms : List S50) (m : S50) : Ev (fun k => insolvencyref33_badMatter.f k d ans app hs ms m.f0 m.f1 m.f2 m.f3 m.f4) (!decide (soundP d m)) := by
  refine ⟨2, fun k hk => ?_⟩
  obtain ⟨k, rfl⟩ : ∃ m, k = m + 2 := ⟨k - 2, by omega⟩
  obtain ⟨f0, f1, f2, f3, f4⟩ := m
  show insolvencyref33_badMatter.f (k + 2) d ans app hs ms f0 f1 f2 f3 f4 = some (!decide (soundP d ⟨f0, f1, f2, f3, f4⟩))
  by_cases hs : 1 ≤ f1 ∧ f1 ≤ 6 ∧ 0 ≤ f3 ∧ f3 < 4
  · have e1 : f1 = 1 ∨ f1 = 2 ∨ f1 = 3 ∨ f1 = 4 ∨ f1 = 5 ∨ f1 = 6 := by omega
    have a1 : ¬ f3 < 0 := by omega
    have a2 : ¬ 4 ≤ f3 := by omega
    have a3 : 0 ≤ f3 := by omega
    have a4 : f3 < 4 := by omega
    by_cases b1 : f2 < d <;> by_cases b2 : 1048576 < f2 <;> by_cases b3 : f2 = 0 <;> by_cases b4 : f3 = 0 <;> cases f4 <;> rcases e1 with rfl | rfl | rfl | rfl | rfl | rfl
    all_goals try subst b3
    all_goals try subst b4
    all_goals first | (simp [insolvencyref33_badMatter.f, insolvencyref33_badMatter.j0, insolvencyref33_badMatter.j1, runs_some, option_ev, soundP, *]; done) | (simp [insolvencyref33_badMatter.f, insolvencyref33_badMatter.j0, insolvencyref33_badMatter.j1, runs_some, option_ev, soundP, *]; omega)
  · have hs2 : ¬ soundP d ⟨f0, f1, f2, f3, f4⟩ := fun h => hs h.1
    rw [decide_eq_false hs2]
    unfold insolvencyref33_badMatter.f
    by_cases h1 : f1 < 1
    · rw [if_pos h1]; rfl
    · rw [if_neg h1]
      by_cases h2 : f1 > 6
      · rw [if_pos h2]; rfl
      · rw [if_neg h2, option_ev, Option.bind_some, decide_eq_false (by omega)]
        rfl
theorem rcheck_inner (d ans app : Int) (hs : List Int) (ms : List S50) (i : Nat) (hi : i < ms.length) (hl : ms.length < 4611686018427387904) (m : S50) (R : Int)
    (hc : Ev (fun k => (insolvencyref33_badMatter.f k d ans app hs ms m.f0 m.f1 m.f2 m.f3 m.f4).bind fun t => if t = true then some 1 else insolvencyref33_CheckDocket.l0 k (wrap64 ((i : Int) + 1)) d ans app hs ms) R) : ∀ (n j : Nat), j ≤ i → i - j = n →
    Ev (fun k => insolvencyref33_CheckDocket.l1 k (i : Int) (j : Int) d ans app hs ms m.f0 m.f1 m.f2 m.f3 m.f4) (if ((ms.take i).drop j).any (fun x => x.f0 == m.f0) = true then 12 else R)
  | 0, j, h1, h2 => by
    obtain rfl : j = i := by omega
    rw [List.drop_eq_nil_of_le (by rw [List.length_take]; omega), List.any_nil, if_neg (by decide)]
    exact Ev.step (fun k => rfl) (ev_else (by omega) hc)
  | n + 1, j, h1, h2 => by
    have hj : j < (ms.take i).length := by rw [List.length_take]; omega
    have e : (ms.take i)[j] = ms[j]'(by omega) := List.getElem_take
    rw [List.drop_eq_getElem_cons hj, List.any_cons, e]
    refine Ev.step (fun k => rfl) (ev_if (by omega) (ev_if (by omega) (ev_if (by omega) ?_)))
    rw [rdM (show j < ms.length by omega)]
    by_cases h3 : ms[j].f0 = m.f0
    · have : (ms[j].f0 == m.f0) = true := by simpa using h3
      rw [this, Bool.true_or, if_pos rfl]
      exact ev_if h3 (Ev.now _)
    · have : (ms[j].f0 == m.f0) = false := by simpa using h3
      rw [this, Bool.false_or]
      refine ev_else h3 ?_
      rw [wn j ms.length (by omega) hl]
      exact rcheck_inner d ans app hs ms i hi hl m R hc n (j + 1) (by omega) (by omega)
theorem rcheck_loop (d ans app : Int) (hs : List Int) (ms : List S50) (hl : ms.length < 4611686018427387904) : ∀ (n i : Nat), i ≤ ms.length → ms.length - i = n →
    Ev (fun k => insolvencyref33_CheckDocket.l0 k (i : Int) d ans app hs ms) (chkL d (ms.take i) (ms.drop i))
  | 0, i, h1, h2 => by
    obtain rfl : i = ms.length := by omega
    rw [List.drop_length, chkL]
    exact Ev.step (fun k => rfl) (ev_else (by omega) (Ev.now _))
  | n + 1, i, h1, h2 => by
    have hi : i < ms.length := by omega
    rw [List.drop_eq_getElem_cons hi, chkL]
    refine Ev.step (fun k => rfl) (ev_if (by omega) (ev_if (by omega) ?_))
    rw [rdM hi]
    by_cases h3 : ms[i].f0 < 0
    · rw [if_pos h3]
      exact ev_if h3 (Ev.now _)
    rw [if_neg h3]
    refine ev_else h3 ?_
    refine rcheck_inner d ans app hs ms i hi hl ms[i] _ ?_ i 0 (Nat.zero_le _) (by omega)
    refine Ev.bind (bad_ev d ans app hs ms ms[i]) ?_
    by_cases h5 : soundP d ms[i]
    · rw [if_pos h5]
      refine ev_else (by simpa using h5) ?_
      rw [wn i _ hi hl, List.take_append_getElem hi]
      exact rcheck_loop d ans app hs ms hl n (i + 1) (by omega) (by omega)
    · rw [if_neg h5]
      exact ev_if (by simpa using h5) (Ev.now _)
theorem rcheck_ev (day ans app : Int) (hs : List Int) (ms : List S50) : Ev (fun k => insolvencyref33_CheckDocket.f k day ans app hs ms) (chkV day ans app hs ms) := by
  unfold insolvencyref33_CheckDocket.f
  refine ev_then (refCheckTerms_some day ans app hs) ?_
  unfold chkV
  by_cases h : ctE day ans app hs.length = 0
  · rw [if_pos h]
    refine ev_if h ?_
    by_cases h2 : 32 < ms.length
    · rw [if_pos h2]
      exact ev_if (by omega) (Ev.now _)
    · rw [if_neg h2]
      exact ev_else (by omega) (rcheck_loop day ans app hs ms (by omega) ms.length 0 (Nat.zero_le _) (by omega))
  · rw [if_neg h]
    exact ev_else h (Ev.now _)
theorem radv_ev (d ans app : Int) (hs : List Int) (ms : List S50) (day : Int) : Ev (fun k => insolvencyref33_Advance.f k d ans app hs ms day) (advV d ans app hs ms day) := by
  unfold insolvencyref33_Advance.f
  refine Ev.bind (rcheck_ev d ans app hs ms) ?_
  by_cases hc : chkV d ans app hs ms = 0
  · refine ev_if hc ?_
    obtain ⟨c1, c2, c3, c4⟩ := chkV_ok hc
    have hd : insolvencyref33_day.f day = some (decide (0 ≤ day ∧ day ≤ 1048576)) := by
      unfold insolvencyref33_day.f
      by_cases h0 : day ≥ 0
      · rw [if_pos h0]
        simp [h0]
      · rw [if_neg h0]
        simp; omega
    refine ev_then hd ?_
    by_cases h1 : 0 ≤ day ∧ day ≤ 1048576
    · refine ev_if (decide_eq_true h1) ?_
      by_cases h3 : day < d
      · have e : advV d ans app hs ms day = dkErr 15 := by unfold advV; rw [if_pos hc, if_neg (by omega), if_pos h3]
        rw [e]
        exact ev_if h3 (Ev.now _)
      · have e : advV d ans app hs ms day = (day, ans, app, hs, ms.map (lapM day), sortR (ms.filterMap (lapR day)), 0) := by unfold advV; rw [if_pos hc, if_neg (by omega), if_neg h3]
        rw [e]
        refine ev_else h3 ?_
        have hn := ((chkL_ok d ms []).1 c4).2.1
        exact Ev.bind ⟨0, fun k _ => lapsed_some k d ans app hs ms day (by omega) (by omega) hn⟩ (Ev.now _)
    · have e : advV d ans app hs ms day = dkErr 1 := by unfold advV; rw [if_pos hc, if_pos (by omega)]
      rw [e]
      exact ev_else (by simpa using h1) (Ev.now _)
  · have e : advV d ans app hs ms day = dkErr (chkV d ans app hs ms) := by unfold advV; rw [if_neg hc]
    rw [e]
    exact ev_else hc (Ev.now _)
theorem rtail_ev (ad : Int × Int) (day ans app : Int) (hs : List Int) (ms : List S50) (rl : List S52) (kind at_ id opt : Int) (h1 : ms.length < 1000000) (h2 : rl.length < 1000000) (hv : ∀ m ∈ ms, soundP day m)
    (ha : Ev (fun k => F.insolvencyref1_AddDays.f k at_ (if kind = 2 then ans else app) hs) ad) : Ev (fun k => ref_File.tail k day ans app hs ms rl kind at_ id opt) (tailV ad day ans app hs ms rl kind at_ id opt) := by
  unfold ref_File.tail tailV
  refine ev_ite (fun _ => Ev.now _) (fun c1 => ev_if (by omega) (ev_ite (fun _ => ev_ite (fun _ => Ev.now _) (fun _ => Ev.now _)) (fun c2 => ev_ite (fun _ => Ev.now _) (fun c3 => ev_ite (fun _ => Ev.now _) (fun c4 => ev_ite (fun _ => Ev.now _) (fun _ => ?_))))))
  refine Ev.bind (a := if kind = 2 ∨ kind = 4 then ad else (0, 0)) (ev_ite (fun _ => ha) (fun _ => Ev.now _)) ?_
  have e : rchgM (rd_T50 ms (fnd id ms 0)) kind (if kind = 2 ∨ kind = 4 then ad else (0, 0)).1 opt = chgM (rd_T50 ms (fnd id ms 0)) kind (if kind = 2 ∨ kind = 4 then ad else (0, 0)).1 opt := by
    unfold rchgM chgM
    by_cases c6 : kind = 6
    · obtain ⟨A, m, B, hms, hf, hm0⟩ := fnd_split id ms 0 (by omega)
      rw [Nat.zero_add] at hf
      have hrd : rd_T50 ms (fnd id ms 0) = m := by rw [hf, hms]; exact rd_mid A B m
      have hs := hv m (by rw [hms]; simp)
      rw [hrd] at c4 ⊢
      have : m.f2 = 0 := by
        have := hs.2.1
        omega
      simp only [if_pos c6, if_neg (show ¬ (kind = 2 ∨ kind = 4) by omega), this]
    · simp only [if_neg c6]
  rw [e]
  generalize (if kind = 2 ∨ kind = 4 then ad else (0, 0)) = b
  unfold chgV
  refine ev_ite (fun _ => Ev.now _) (fun _ => ?_)
  by_cases c8 : kind = 6
  · simp only [if_pos c8]
    exact ev_if (by omega) (Ev.now _)
  · simp only [if_neg c8]
    exact Ev.now _
theorem rfile_ev (ad : Int × Int) (d ans app : Int) (hs : List Int) (ms : List S50) (kind at_ id opt : Int) (ha : Ev (fun k => F.insolvencyref1_AddDays.f k at_ (if kind = 2 then ans else app) hs) ad) :
    Ev (fun k => ref_File.f k d ans app hs ms kind at_ id opt) (fileV ad d ans app hs ms kind at_ id opt) := by
  unfold ref_File.f fileV
  refine Ev.bind (radv_ev d ans app hs ms at_) ?_
  rcases advV_cases d ans app hs ms at_ with ⟨e0, e1, e2, e3, e4, e5⟩ | ⟨e0, e1⟩
  · rw [if_pos e0]
    refine ev_if e0 ?_
    obtain ⟨c1, c2, c3, c4⟩ := chkV_ok e2
    have hv := ((chkL_ok d ms []).1 c4).1
    have hl := List.length_filterMap_le (lapR at_) ms
    rw [e1]
    refine rtail_ev ad at_ ans app hs _ _ kind at_ id opt (by simp; omega) (by rw [ins_size]; omega) (fun m hm => ?_) ha
    obtain ⟨x, hx, rfl⟩ := List.mem_map.1 hm
    exact lap_sound e5 (hv x hx).2
  · rw [if_neg e0]
    exact ev_else e0 (Ev.now _)
theorem rdF' (done r : List S47) (x : S47) : rd_T47 (done ++ x :: r) (done.length : Int) = x := by
  unfold rd_T47
  rw [Int.toNat_natCast, List.getD_eq_getElem?_getD, List.getElem?_append_right (Nat.le_refl _)]
  simp
theorem built_loop (ans app : Int) (hs : List Int) : ∀ (rest done : List S47) (d : Int) (ms : List S50) (all : List S52), (∀ y ∈ rest, (0 ≤ y.f2 ∧ y.f2 < 4) ∧ 0 ≤ y.f1 ∧ y.f1 ≤ 72) → (done ++ rest).length ≤ 24 → 0 ≤ d → d ≤ 72 → Inv d ans app hs ms all →
    ∃ d2 ms2 all2, Ev (fun k => insolvencylaw33_built.l0 k (done ++ rest) (done.length : Int) d ans app hs ms) (d2, ans, app, hs, ms2) ∧ Inv d2 ans app hs ms2 all2 ∧ 0 ≤ d2 ∧ d2 ≤ 72
  | [], done, d, ms, all, hy, hl, d0, d1, h => ⟨d, ms, all, Ev.step (fun k => rfl) (ev_else (by simp) (Ev.now _)), h, d0, d1⟩
  | x :: r, done, d, ms, all, hy, hl, d0, d1, h => by
    have hlen : (done ++ x :: r).length = done.length + r.length + 1 := by simp; omega
    have hx := hy x (by simp)
    obtain ⟨ad, -, ha1, ha2⟩ := adds hs x.f1 (if x.f0 = 2 then ans else app)
    have hf := rfile_ev ad d ans app hs ms x.f0 x.f1 x.f2 x.f3 ha1
    have ew : wrap64 ((done.length : Int) + 1) = ((done ++ [x]).length : Int) := by rw [w64 _ (by omega) (by omega)]; simp
    by_cases he : (fileV ad d ans app hs ms x.f0 x.f1 x.f2 x.f3).2.2.2.2.2.2 = 0
    · obtain ⟨ms2, rl2, e1, h2, h4, h5⟩ := h.file ad x.f0 x.f1 x.f2 x.f3 hx.1 ha2 he
      obtain ⟨d3, ms3, all3, i1, i2, i3, i4⟩ := built_loop ans app hs r (done ++ [x]) x.f1 ms2 (all ++ rl2) (fun y hy' => hy y (by simp [hy'])) (by simpa using hl) hx.2.1 hx.2.2 h2
      refine ⟨d3, ms3, all3, Ev.step (fun k => rfl) (ev_if (by omega) (ev_if (by omega) ?_)), i2, i3, i4⟩
      rw [rdF', ew]
      refine Ev.bind hf (ev_if he ?_)
      rw [e1]
      rw [List.append_assoc] at i1
      exact i1
    · obtain ⟨d3, ms3, all3, i1, i2, i3, i4⟩ := built_loop ans app hs r (done ++ [x]) d ms all (fun y hy' => hy y (by simp [hy'])) (by simpa using hl) d0 d1 h
      refine ⟨d3, ms3, all3, Ev.step (fun k => rfl) (ev_if (by omega) (ev_if (by omega) ?_)), i2, i3, i4⟩
      rw [rdF', ew]
      refine Ev.bind hf (ev_else he ?_)
      rw [List.append_assoc] at i1
      exact i1
theorem built_ev (a b : Int) (l1 : List Int) (l2 : List S83) (ha : 0 ≤ a ∧ a < 256) (hb : 0 ≤ b ∧ b < 256) (h : ∀ x ∈ l2, Ho.ok83 x) :
    ∃ d ans app hs ms all, Ev (fun k => insolvencylaw33_built.f k a b l1 l2) (d, ans, app, hs, ms) ∧ Inv d ans app hs ms all ∧ 0 ≤ d ∧ d ≤ 72 := by
  obtain ⟨hs, h1, h2, h3⟩ := terms_ev a b l1 ha hb
  obtain ⟨fl, h4, h5, h6⟩ := mats_ev l2 h
  have hc := h3 0 (by omega) (by omega)
  obtain ⟨d, ms, all, i1, i2, i3, i4⟩ := built_loop (1 + a % 8) (1 + b % 8) hs fl [] 0 [] [] h6 (by simpa using h5) (by omega) (by omega) (Inv.new hc)
  refine ⟨d, _, _, hs, ms, all, ?_, i2, i3, i4⟩
  unfold insolvencylaw33_built.f
  refine Ev.bind h1 (ev_then (refNew_some _ _ _ _) ?_)
  rw [newV_ok hc]
  exact Ev.bind h4 i1
theorem Inv.hs_len {d ans app : Int} {hs : List Int} {ms : List S50} {all : List S52} (h : Inv d ans app hs ms all) : hs.length ≤ 1000 := ctE_len h.ct
theorem rul_loop (l : List S52) (hl : l.length < 4611686018427387904) : ∀ (n i : Nat), i ≤ l.length → l.length - i = n → Ev (fun k => insolvencyref33_SameRulings.l0 k l l (i : Int)) true
  | 0, i, h1, h2 => Ev.step (fun k => rfl) (ev_else (by omega) (Ev.now _))
  | n + 1, i, h1, h2 => by
    refine Ev.step (fun k => rfl) (ev_if (by omega) (ev_if (by omega) (ev_if (by omega) (ev_else (by simp) ?_))))
    rw [wn i l.length (by omega) hl]
    exact rul_loop l hl n (i + 1) (by omega) (by omega)
theorem sameRulings_ev (l : List S52) (hl : l.length < 4611686018427387904) : Ev (fun k => insolvencyref33_SameRulings.f k l l) true := ev_if rfl (rul_loop l hl l.length 0 (Nat.zero_le _) (by omega))
theorem advV_len {d ans app : Int} {hs : List Int} {ms : List S50} {day : Int} : (advV d ans app hs ms day).2.2.2.1.length ≤ 1000 ∧ (advV d ans app hs ms day).2.2.2.2.1.length ≤ 32 ∧ (advV d ans app hs ms day).2.2.2.2.2.1.length ≤ 32 := by
  rcases advV_cases d ans app hs ms day with ⟨-, e1, e2, -⟩ | ⟨-, e1⟩
  · obtain ⟨c1, c2, c3, c4⟩ := chkV_ok e2
    have hl := List.length_filterMap_le (lapR day) ms
    rw [e1]
    refine ⟨c2, by simpa using c3, ?_⟩
    show (sortR _).length ≤ 32
    rw [ins_size]
    omega
  · rw [e1]
    exact ⟨by simp [dkErr], by simp [dkErr], by simp [dkErr]⟩
end Go.Proofs.Ytpfiecjacpbhkaa.D

namespace Go.Proofs.Ytpfiecjacpbhkaa.Pure
open Go.RowKit Go.Proofs.YtpfiecjacpbhkaaW.PrintWords Go.Proofs.YtpfiecjacpbhkaaW.PrintLast Go.Proofs.YtpfiecjacpbhkaaW.PrintMore Hx Hm D
theorem dc_tail (x0 x1 x2 : Int) (x3 : List Int) (x4 : List S50) (y0 y1 y2 : Int) (y3 : List Int) (y4 : List S50) : Ev (fun k => insolvencylaw33_DocketCheck.tail k x0 x1 x2 x3 x4 y0 y1 y2 y3 y4) true := by
  unfold insolvencylaw33_DocketCheck.tail
  refine Ev.bind awake_ev (ev_if rfl (Ev.bind (check_ev y0 y1 y2 y3 y4) (Ev.bind (rcheck_ev y0 y1 y2 y3 y4) (ev_if rfl (Ev.bind (check_ev x0 x1 x2 x3 x4) (Ev.bind (rcheck_ev x0 x1 x2 x3 x4) ?_))))))
  simp only [beq_self_eq_true]
  exact Ev.now _
theorem DocketCheck : insolvencylaw33_DocketCheck.Pure := by
  intro z0 x0 y0 l0 m0 a1 l2 l3 a4 a5 _ _ _ _ _ _ _ w1 _ _ _ w3 w4 _
  refine Ev.rounds (g := fun k => insolvencylaw33_DocketCheck.f k z0 x0 y0 l0 m0 a1.f0 a1.f1 l2 l3 a4 a5) ?_
  unfold insolvencylaw33_DocketCheck.f insolvencylaw33_few.f
  by_cases h : (l0.length : Int) ≤ 12
  case neg => exact ev_then (if_neg h) (ev_else (by decide) awake_ev)
  by_cases h2 : (m0.length : Int) ≤ 10
  case neg => exact ev_then (if_pos h) (ev_else (by simpa using h2) awake_ev)
  refine ev_then (if_pos h) (ev_if (decide_eq_true h2) ?_)
  obtain ⟨d, ans, app, hs, ms, all, e1, -, -, -⟩ := built_ev a1.f0 a1.f1 l2 l3 (u8_of w1.1) (u8_of w1.2) w3
  refine Ev.bind e1 ?_
  by_cases hl : 0 < (ms.length : Int)
  · have h4 := u8_of w4
    have hw : wrap64 a4 = a4 := w64 _ (by omega) (by omega)
    have hx : 0 ≤ dcIx a4 ms ∧ dcIx a4 ms < (ms.length : Int) := by
      unfold dcIx
      rw [hw]
      exact ⟨Int.tmod_nonneg _ h4.1, Int.tmod_lt_of_pos _ hl⟩
    exact ev_if hl (ev_if hx (dc_tail ..))
  · exact ev_else hl (dc_tail ..)
end Go.Proofs.Ytpfiecjacpbhkaa.Pure

namespace Go.Proofs.Ytpfiecjacpbhkaa.docketCheck
open Go.ChangeShapes Go.WideShapes Go.ChangeAt Go.RowKit Go.Proofs.YtpfiecjacpbhkaaW.PrintWords
set_option linter.unusedVariables false
set_option linter.unusedSimpArgs false
theorem own : ownKnob Try.prog.godebug = none := by kernel_rfl
theorem laidOut : laidOutB Try.prog = true := by kernel_rfl
set_option maxRecDepth 100000 in
theorem lifted (os : Os) (started : os.Started) (H : Type) (enc : TypeId × Value → H) :
    ReturnsInHanded {} Try.checked os 6 .any (Rows.docketCheckSpec.pre6 enc Try.prog Try.f6 Rows.docketCheckRow.domain false) (Rows.docketCheckSpec.post enc Try.prog Try.f6 false true false false) := by
  refine returnsInHanded_of_change_sized (C := Try.checked) own started (by kernel_rfl) Try.func6
    (ChangeSpec.witness6 (enc := enc) (C := Try.checked) false ⟨#[], #[.agg #[.int .i64 0, .int .i64 0, .int .i64 0, .slice none 0 0, .slice none 0 0], .agg #[.int .u8 0, .int .u8 0], .slice none 0 0, .slice none 0 0, .int .u8 0, .int .u8 0], []⟩ 8 (by kernel_rfl) (by kernel_rfl) (by kernel_rfl) (by kernel_rfl)) ?_
  intro W base args ds gs before hval0 hW hcnd hsz0 _
  have hval : ∀ (j : Nat) t v, Try.f6.params[j]? = some t → args[j]? = some v → Value.okWide Try.prog W .any base t v := hval0
  have hW' := hW
  obtain ⟨p, q, hA0, hV, rfl, hfz, hnd⟩ := hW
  have hA : DataW.TrodAll enc Try.prog W 0 (fun _ => true) true Try.f6.params.toList args.toList ds p := hA0
  rw [Try.params6] at hA hval
  obtain ⟨v0, vs0, d0, ds0, p0, q0, hargs, rfl, rfl, h0, r0⟩ := trodAll_cons hA
  obtain ⟨v1, vs1, d1, ds1, p1, q1, rfl, rfl, rfl, h1, r1⟩ := trodAll_cons r0
  obtain ⟨v2, vs2, d2, ds2, p2, q2, rfl, rfl, rfl, h2, r2⟩ := trodAll_cons r1
  obtain ⟨v3, vs3, d3, ds3, p3, q3, rfl, rfl, rfl, h3, r3⟩ := trodAll_cons r2
  obtain ⟨v4, vs4, d4, ds4, p4, q4, rfl, rfl, rfl, h4, r4⟩ := trodAll_cons r3
  obtain ⟨v5, vs5, d5, ds5, p5, q5, rfl, rfl, rfl, h5, r5⟩ := trodAll_cons r4
  obtain ⟨rfl, rfl, rfl⟩ := trodAll_nil r5
  obtain rfl : args = #[v0, v1, v2, v3, v4, v5] := by cases args; simp_all
  obtain ⟨rfl, rfl⟩ := trodVars_none hV
  have k0 := h0
  have lt0 : ∀ x ∈ p0, x.block < W.heap.size := by obtain ⟨m, hm⟩ := k0; exact DataW.trod_lt m _ _ _ hm
  obtain ⟨z0, x0, y0, A0, l0, c0, B0, m0, e0, rfl, lc0, rr0, me0, rm0, wz0, wx0, wy0, lm0, w0, mm0, wm0⟩ := Ho.open_docket (hval 0 30 v0 rfl rfl) h0
  have k1 := h1
  have lt1 : ∀ x ∈ p1, x.block < W.heap.size := by obtain ⟨m, hm⟩ := k1; exact DataW.trod_lt m _ _ _ hm
  obtain ⟨cs1, a1, rfl, K1, w1⟩ := Ho.open_array Try.underlying22 (hval 1 22 v1 rfl rfl) h1 Ho.reads22
  obtain rfl := D.k22_open K1
  have k2 := h2
  have lt2 : ∀ x ∈ p2, x.block < W.heap.size := by obtain ⟨m, hm⟩ := k2; exact DataW.trod_lt m _ _ _ hm
  obtain ⟨A2, l2, c2, rfl, lc2, lm2, rr2, w2⟩ := Ho.open_rows Try.underlying23 (hval 2 23 v2 rfl rfl) h2 Ho.readsI_u16
  have k3 := h3
  have lt3 : ∀ x ∈ p3, x.block < W.heap.size := by obtain ⟨m, hm⟩ := k3; exact DataW.trod_lt m _ _ _ hm
  obtain ⟨A3, l3, c3, rfl, lc3, lm3, rr3, w3⟩ := Ho.open_rows Try.underlying24 (hval 3 24 v3 rfl rfl) h3 Ho.reads83
  have k4 := h4
  have lt4 : ∀ x ∈ p4, x.block < W.heap.size := by obtain ⟨m, hm⟩ := k4; exact DataW.trod_lt m _ _ _ hm
  obtain ⟨a4, rfl, _, _, w4⟩ := open_int Try.underlying5 (hval 4 5 v4 rfl rfl) h4
  have k5 := h5
  have lt5 : ∀ x ∈ p5, x.block < W.heap.size := by obtain ⟨m, hm⟩ := k5; exact DataW.trod_lt m _ _ _ hm
  obtain ⟨a5, rfl, _, _, w5⟩ := open_int Try.underlying5 (hval 5 5 v5 rfl rfl) h5
  clear hA0 hval0 hsz0
  obtain ⟨k, hk⟩ := Pure.DocketCheck z0 x0 y0 l0 m0 a1 l2 l3 a4 a5 wz0 wx0 wy0 lm0 w0 mm0 wm0 w1 lm2 w2 lm3 w3 w4 w5
  refine (D.insolvencylaw33_DocketCheck.calls k z0 x0 y0 _ _ l0 _ _ m0 a1.f0 a1.f1 _ _ l2 _ _ l3 a4 a5 true W rr0 lc0 rm0 me0 (show Kd.C _ W A2 l2.length l2 from rr2) lc2 (show Kd.C _ W A3 l3.length l3 from rr3) lc3 hk).mono fun e W' ⟨he, bel⟩ => ?_
  subst he
  exact ⟨_, rfl, _, _, _, [], _, [], hW', trodAll_mk1 (shut_bool Try.underlying4 _), (trodAll_cons_mk (Below.trod laidOut (by kernel_rfl) (of_decide_eq_true (by kernel_rfl)) k0 bel lt0) (trodAll_cons_mk (Below.trod laidOut (by kernel_rfl) (of_decide_eq_true (by kernel_rfl)) k1 bel lt1) (trodAll_cons_mk (Below.trod laidOut (by kernel_rfl) (of_decide_eq_true (by kernel_rfl)) k2 bel lt2) (trodAll_cons_mk (Below.trod laidOut (by kernel_rfl) (of_decide_eq_true (by kernel_rfl)) k3 bel lt3) (trodAll_cons_mk (Below.trod laidOut (by kernel_rfl) (of_decide_eq_true (by kernel_rfl)) k4 bel lt4) (trodAll_cons_mk (Below.trod laidOut (by kernel_rfl) (of_decide_eq_true (by kernel_rfl)) k5 bel lt5) trodAll_mk0)))))), rfl, bel.frame _, fun h => by cases h⟩
theorem over : Rows.docketCheckRow.holds Try.pinned (OpenSpec.ofChange Rows.docketCheckSpec) :=
  OpenClaim.holds_of_wide 6 Try.f6 rfl rfl rfl rfl rfl rfl rfl ⟨rfl, rfl, rfl, rfl, rfl⟩ rfl rfl rfl rfl rfl (by kernel_rfl) Try.func6 (by kernel_rfl)
    (of_decide_eq_true (by kernel_rfl)) (by unfold Func.isWrapper; first | (rw [if_pos (by decide +kernel)]; kernel_rfl) | (rw [if_neg (by decide +kernel)]; exact ⟨rfl, rfl⟩))
    (fun os started H enc _ => lifted os started H enc)
theorem proved : Rows.DocketCheckSaid := over
#print axioms proved
end Go.Proofs.Ytpfiecjacpbhkaa.docketCheck
namespace Go.Proofs.Ytpfiecjacpbhkaa
theorem docketCheck_holds : Rows.DocketCheckSaid := docketCheck.proved
end Go.Proofs.Ytpfiecjacpbhkaa
