/- Part 5 of 6 of the proof of DocketPlay: texts of this claim put one behind the other by a program; each begins with its own words. -/
import Derived.Deep.RegionHeld3
import Derived.Maps.Own
import Derived.Maps.OwnOps
import Derived.Maps.Views
import Derived.SizedLaws
import Derived.ChangeSlices
import Derived.OpenShut
import Derived.Deep.Slices
import Derived.Deep.Fields
import Derived.ChangeSame
import Derived.ProofKit
import Derived.Test.YtpfiecjacpbhkaaZDocketPlay4
/- insolvencyref33.lapsed: the matters whose period has ended, and the rulings, each put in its place. -/
namespace Go.Proofs.Ytpfiecjacpbhkaa.D
open Go.RowKit Go.Proofs.YtpfiecjacpbhkaaW.PrintWords Go.Proofs.YtpfiecjacpbhkaaW.PrintLast Go.Proofs.YtpfiecjacpbhkaaW.PrintMore
set_option linter.unusedVariables false
set_option linter.unusedSimpArgs false

/-! ### what it comes to -/
def gtR (x r : S52) : Bool := decide (r.f1 < x.f1) || (x.f1 == r.f1 && decide (r.f0 < x.f0))
/-- The place of r: behind the last that is not greater. -/
def posR (l : List S52) (r : S52) : Nat → Nat
  | 0 => 0
  | k + 1 => if gtR (rd_T52 l (k : Int)) r = true then posR l r k else k + 1
def shR (l : List S52) (p : Nat) : Nat → List S52
  | 0 => l
  | j + 1 => if p < j + 1 then shR (l.set (j + 1) (rd_T52 l (j : Int))) p j else l
def insR (l : List S52) (r : S52) : List S52 := (shR (l ++ [⟨0, 0, 0⟩]) (posR l r l.length) l.length).set (posR l r l.length) r
theorem posR_le (l : List S52) (r : S52) : ∀ k, posR l r k ≤ k
  | 0 => Nat.le_refl _
  | k + 1 => by
    unfold posR
    split
    · exact Nat.le_succ_of_le (posR_le l r k)
    · exact Nat.le_refl _
theorem shR_length (p : Nat) : ∀ (j : Nat) (l : List S52), (shR l p j).length = l.length
  | 0, l => rfl
  | j + 1, l => by
    unfold shR
    split
    · rw [shR_length p j, List.length_set]
    · rfl
theorem insR_length (l : List S52) (r : S52) : (insR l r).length = l.length + 1 := by unfold insR; rw [List.length_set, shR_length]; simp
def lapses2 (day : Int) (m : S50) : Bool := (m.f1 == 2 || m.f1 == 4) && decide (m.f2 < day)
def lapM2 (day : Int) (m : S50) : S50 := ⟨m.f0, 6, 0, m.f3, m.f1 == 2⟩
def lapR2 (m : S50) : S52 := ⟨m.f0, wrap64 (m.f2 + 1), m.f3⟩
def lapGo (day : Int) : Nat → List S50 → List S52 → Nat → List S50 × List S52
  | 0, ms, l, _ => (ms, l)
  | n + 1, ms, l, i => if lapses2 day (rd_T50 ms (i : Int)) = true then lapGo day n (ms.set i (lapM2 day (rd_T50 ms (i : Int)))) (insR l (lapR2 (rd_T50 ms (i : Int)))) (i + 1) else lapGo day n ms l (i + 1)
def insolvencyref33_lapsed.f (k : Nat) (a0 a1 a2 : Int) (l3 : List Int) (l4 : List S50) (at_ : Int) : Option (Int × Int × Int × List Int × List S50 × List S52) :=
  if l3.length < 1000000 ∧ l4.length < 1000000 then some (at_, a1, a2, l3, (lapGo at_ l4.length l4 [] 0).1, (lapGo at_ l4.length l4 [] 0).2) else none
theorem insolvencyref33_lapsed.mono : ∀ a0 a1 a2 a3 a4 a5 k, LeO (insolvencyref33_lapsed.f k a0 a1 a2 a3 a4 a5) (insolvencyref33_lapsed.f (k + 1) a0 a1 a2 a3 a4 a5) := fun _ _ _ _ _ _ _ => LeO.refl _

/-! ### the state of the walk -/
structure LapSt (w W : World) (gO gZ : Nat) (day ans app : Int) (v3 v4 v5 : Value) (hs : List Int) (ms : List S50) (l : List S52) : Prop where
  b : Below w.heap.size w W
  o : W.heap[gO]? = some (.cells #[.int .i64 day, .int .i64 ans, .int .i64 app, v3, v4] 30 (0, 0))
  z : W.heap[gZ]? = some (.cells #[.int .i64 0, .int .i64 0, .int .i64 0, .slice none 0 0, .slice none 0 0] 30 (0, 0))
  r3 : Kd.R (Kd.int .i64) 3 W w.heap.size (fun _ => True) v3 hs
  r4 : Kd.R k50 50 W w.heap.size (fun _ => True) v4 ms
  r5 : Kd.R k52 52 W w.heap.size (fun _ => True) v5 l
theorem elm5 {e base g n cap : Nat} {ok : Nat → Prop} {W : World} {xs : List S50} (h : Kd.R k50 e W base ok (.slice (some ⟨g, 0, none⟩) n cap) xs) (i : Int) (h0 : 0 ≤ i) (h1 : i < n) (m : S50) (hm : rd_T50 xs i = m) :
    (W.cell? ⟨g, i.toNat * 5, none⟩ = some (.int .i64 m.f0) ∧ W.cell? ⟨g, i.toNat * 5 + 1, none⟩ = some (.int .i64 m.f1) ∧ W.cell? ⟨g, i.toNat * 5 + 2, none⟩ = some (.int .i64 m.f2) ∧ W.cell? ⟨g, i.toNat * 5 + 3, none⟩ = some (.int .i64 m.f3) ∧ W.cell? ⟨g, i.toNat * 5 + 4, none⟩ = some (.bool m.f4)) ∧
    (W.frozen? ⟨g, i.toNat * 5 + 1, none⟩ = false ∧ W.frozen? ⟨g, i.toNat * 5 + 2, none⟩ = false ∧ W.frozen? ⟨g, i.toNat * 5 + 4, none⟩ = false) := by
  obtain ⟨ce, hcl, hM, hcc, hfr⟩ := Kd.R_elem h z50 i h0 h1
  obtain rfl := k50_openM hM
  subst hm
  exact ⟨⟨hcc 0 _ rfl, hcc 1 _ rfl, hcc 2 _ rfl, hcc 3 _ rfl, hcc 4 _ rfl⟩, hfr 1, hfr 2, hfr 4⟩
section
variable {w W W' : World} {gO gZ : Nat} {day ans app : Int} {v3 v4 v5 : Value} {hs : List Int} {ms : List S50} {l : List S52}
theorem LapSt.below (h : LapSt w W gO gZ day ans app v3 v4 v5 hs ms l) (hb : Below W.heap.size W W') : LapSt w W' gO gZ day ans app v3 v4 v5 hs ms l :=
  ⟨below_step h.b hb, blk_below h.o hb, blk_below h.z hb, Kd.R_below h.r3 hb, Kd.R_below h.r4 hb, Kd.R_below h.r5 hb⟩
/-- The matters' row has been written. -/
theorem LapSt.setM (h : LapSt w W gO gZ day ans app v3 v4 v5 hs ms l) {ms' : List S50} (hg : W.grownBy W' v4.ownBlock) (hr : Kd.R k50 50 W' w.heap.size (fun _ => True) v4 ms') : LapSt w W' gO gZ day ans app v3 v4 v5 hs ms' l :=
  ⟨h.b.grown hg h.b.size (fun k hk => by
      rcases Kd.R_base2 h.r4 with e | ⟨k', e, hk'⟩
      · rw [e] at hk; cases hk
      · rw [e] at hk; cases hk; exact hk'),
    blk_grown h.o hg (Kd.R_ne h.r4 h.o (by decide)), blk_grown h.z hg (Kd.R_ne h.r4 h.z (by decide)), Kd.R_over' h.r3 (Kd.R_typed h.r4) (by decide) hg, hr, Kd.R_over' h.r5 (Kd.R_typed h.r4) (by decide) hg⟩
/-- The rulings' row has been written, or grown. -/
theorem LapSt.setR (h : LapSt w W gO gZ day ans app v3 v4 v5 hs ms l) {l' : List S52} {v5' : Value} (hg : W.grownBy W' v5.ownBlock) (hr : Kd.R k52 52 W' w.heap.size (fun _ => True) v5' l') : LapSt w W' gO gZ day ans app v3 v4 v5' hs ms l' :=
  ⟨h.b.grown hg h.b.size (fun k hk => by
      rcases Kd.R_base2 h.r5 with e | ⟨k', e, hk'⟩
      · rw [e] at hk; cases hk
      · rw [e] at hk; cases hk; exact hk'),
    blk_grown h.o hg (Kd.R_ne h.r5 h.o (by decide)), blk_grown h.z hg (Kd.R_ne h.r5 h.z (by decide)), Kd.R_over' h.r3 (Kd.R_typed h.r5) (by decide) hg, Kd.R_over' h.r4 (Kd.R_typed h.r5) (by decide) hg, hr⟩
end

theorem elmR {e base g n cap : Nat} {ok : Nat → Prop} {W : World} {xs : List S52} (h : Kd.R k52 e W base ok (.slice (some ⟨g, 0, none⟩) n cap) xs) (i : Nat) (h1 : i < n) (m : S52) (hm : rd_T52 xs (i : Int) = m) :
    (W.cell? ⟨g, i * 3, none⟩ = some (.int .i64 m.f0) ∧ W.cell? ⟨g, i * 3 + 1, none⟩ = some (.int .i64 m.f1) ∧ W.cell? ⟨g, i * 3 + 2, none⟩ = some (.int .i64 m.f2)) ∧
    (W.frozen? ⟨g, i * 3, none⟩ = false ∧ W.frozen? ⟨g, i * 3 + 1, none⟩ = false ∧ W.frozen? ⟨g, i * 3 + 2, none⟩ = false) := by
  obtain ⟨ce, hcl, hM, hcc, hfr⟩ := Kd.R_elem h z52 (i : Int) (Int.natCast_nonneg i) (by omega)
  obtain rfl := k52_openM hM
  subst hm
  rw [Int.toNat_natCast] at hcc hfr
  exact ⟨⟨hcc 0 _ rfl, hcc 1 _ rfl, hcc 2 _ rfl⟩, hfr 0, hfr 1, hfr 2⟩
theorem putR {e base g n cap : Nat} {ok : Nat → Prop} {W : World} {xs : List S52} (h : Kd.R k52 e W base ok (.slice (some ⟨g, 0, none⟩) n cap) xs) (i : Nat) (h1 : i < n) (m : S52) :
    Kd.R k52 e (((W.setCell ⟨g, i * 3, none⟩ (.int .i64 m.f0)).setCell ⟨g, i * 3 + 1, none⟩ (.int .i64 m.f1)).setCell ⟨g, i * 3 + 2, none⟩ (.int .i64 m.f2)) base ok (.slice (some ⟨g, 0, none⟩) n cap) (xs.set i m) ∧
    W.grownBy (((W.setCell ⟨g, i * 3, none⟩ (.int .i64 m.f0)).setCell ⟨g, i * 3 + 1, none⟩ (.int .i64 m.f1)).setCell ⟨g, i * 3 + 2, none⟩ (.int .i64 m.f2)) (some g) := by
  obtain ⟨ce, hcl, hM, hcc, hfr⟩ := Kd.R_elem h z52 (i : Int) (Int.natCast_nonneg i) (by omega)
  obtain rfl := k52_openM hM
  have := Kd.R_seg h (i : Int) (Int.natCast_nonneg i) (by omega) (seg := [.int .i64 m.f0, .int .i64 m.f1, .int .i64 m.f2]) (j := 0) hcl hcc (show 3 ≤ 3 from by decide) (x' := m) (k52_mkM _ _ _ m) (fun _ hk => hk)
  rw [Int.toNat_natCast] at this
  exact this
theorem put4 {e base g n cap : Nat} {ok : Nat → Prop} {W : World} {xs : List S50} (h : Kd.R k50 e W base ok (.slice (some ⟨g, 0, none⟩) n cap) xs) (i : Int) (h0 : 0 ≤ i) (h1 : i < n) (m : S50) (hm : rd_T50 xs i = m) (x : Bool) :
    Kd.R k50 e (W.setCell ⟨g, i.toNat * 5 + 4, none⟩ (.bool x)) base ok (.slice (some ⟨g, 0, none⟩) n cap) (xs.set i.toNat ⟨m.f0, m.f1, m.f2, m.f3, x⟩) ∧ W.grownBy (W.setCell ⟨g, i.toNat * 5 + 4, none⟩ (.bool x)) (some g) := by
  obtain ⟨ce, hcl, hM, hcc, hfr⟩ := Kd.R_elem h z50 i h0 h1
  obtain rfl := k50_openM hM
  change rd_T50 xs i = m at hm
  have := Kd.R_seg h i h0 h1 (seg := [.bool x]) (j := 4) hcl hcc (show 5 ≤ 5 from by decide) (x' := (⟨m.f0, m.f1, m.f2, m.f3, x⟩ : S50)) (by rw [← hm]; exact k50_mkM _ _ _ _) (fun _ hk => hk)
  exact this
theorem LapSt.lapse {w W : World} {gO gZ g4 c4 n : Nat} {day ans app : Int} {v3 v5 : Value} {hs : List Int} {ms : List S50} {l : List S52} (h : LapSt w W gO gZ day ans app v3 (.slice (some ⟨g4, 0, none⟩) n c4) v5 hs ms l) (i : Nat) (hi : i < n) (hn : ms.length = n) (m : S50) (hm : rd_T50 ms (i : Int) = m) :
    LapSt w (((W.setCell ⟨g4, i * 5 + 4, none⟩ (.bool (m.f1 == 2))).setCell ⟨g4, i * 5 + 1, none⟩ (.int .i64 6)).setCell ⟨g4, i * 5 + 2, none⟩ (.int .i64 0)) gO gZ day ans app v3 (.slice (some ⟨g4, 0, none⟩) n c4) v5 hs (ms.set i (lapM2 day m)) l := by
  have p0 : 0 ≤ (i : Int) := Int.natCast_nonneg i
  have q0 : (i : Int) < (n : Int) := by omega
  have q2 : (i : Int) < (ms.length : Int) := by omega
  have a1 := put4 h.r4 (i : Int) p0 q0 m hm (m.f1 == 2)
  have b1 := h.setM a1.2 a1.1
  have a2 := put1 b1.r4 (i : Int) p0 q0 _ (rd_set ms (i : Int) _ p0 q2) 6
  rw [List.set_set] at a2
  have b2 := b1.setM a2.2 a2.1
  have a3 := put2 b2.r4 (i : Int) p0 q0 _ (rd_set ms (i : Int) _ p0 q2) 0
  rw [List.set_set] at a3
  have b3 := b2.setM a3.2 a3.1
  exact b3

def lapWorld (w : World) (d a p : Int) (v u : Value) : World :=
  (w.alloc (.cells #[.int .i64 d, .int .i64 a, .int .i64 p, v, u] 30 (0, 0))).alloc (.cells #[.int .i64 0, .int .i64 0, .int .i64 0, .slice none 0 0, .slice none 0 0] 30 (0, 0))
theorem lapW_below (w : World) (d a p : Int) (v u : Value) : Below w.heap.size w (lapWorld w d a p v u) := by
  unfold lapWorld
  exact below_alloc (below_alloc (Below.refl _ _) _) _
theorem lapW_res (w : World) (d a p : Int) (v u : Value) : (lapWorld w d a p v u).heap[w.heap.size + 1]? = some (.cells #[.int .i64 0, .int .i64 0, .int .i64 0, .slice none 0 0, .slice none 0 0] 30 (0, 0)) := by
  have := blk_new (w.alloc (.cells #[.int .i64 d, .int .i64 a, .int .i64 p, v, u] 30 (0, 0))) (.cells #[.int .i64 0, .int .i64 0, .int .i64 0, .slice none 0 0, .slice none 0 0] 30 (0, 0))
  simpa [lapWorld] using this

set_option maxHeartbeats 16000000 in
set_option maxRecDepth 100000 in
theorem insolvencyref33_lapsed.calls (k : Nat) (a0_0 : Int) (a0_1 : Int) (a0_2 : Int) (A0_3 : Option Addr) (c0_3 : Nat) (l0_3 : List Int) (A0_4 : Option Addr) (c0_4 : Nat) (l0_4 : List S50) (a1 : Int) (r1 : Int) (r2 : Int) (r3 : Int) (r4 : List Int) (r5 : List S50) (r6 : List S52) (w : World) (hr0_3 : Kd.C (Kd.int .i64) w A0_3 l0_3.length l0_3) (hc0_3 : l0_3.length ≤ c0_3) (hr0_4 : Kd.C k50 w A0_4 l0_4.length l0_4) (hc0_4 : l0_4.length ≤ c0_4) (h : insolvencyref33_lapsed.f k a0_0 a0_1 a0_2 l0_3 l0_4 a1 = some (r1, r2, r3, r4, r5, r6)) :
    Calls Try.prog 45 #[.agg #[.int .i64 a0_0, .int .i64 a0_1, .int .i64 a0_2, .slice A0_3 l0_3.length c0_3, .slice A0_4 l0_4.length c0_4], .int .i64 a1] w fun e w' => ∃ v3_ v4_ v5_ : Value, e = .returned (.tuple #[.agg #[.int .i64 r1, .int .i64 r2, .int .i64 r3, v3_, v4_], v5_]) ∧ Kd.R (Kd.int .i64) 3 w' w.heap.size (fun _ => True) v3_ r4 ∧ Kd.R k50 50 w' w.heap.size (fun _ => True) v4_ r5 ∧ Kd.R k52 52 w' w.heap.size (fun _ => True) v5_ r6 ∧ Below w.heap.size w w' := by
  have hu := Try.underlying30
  have hu2 := Try.underlying50
  have hu3 := Try.underlying52
  have hu4 := Try.underlying28
  have hu5 := Try.underlying32
  unfold insolvencyref33_lapsed.f at h
  by_cases hl : l0_3.length < 1000000 ∧ l0_4.length < 1000000
  case neg => rw [if_neg hl] at h; cases h
  rw [if_pos hl] at h
  have h := Option.some.inj h
  injection h with h1 h
  injection h with h2 h
  injection h with h3 h
  injection h with h4 h
  injection h with h5 h6
  subst h1 h2 h3 h4
  have I0 : (lapGo a1 l0_4.length l0_4 [] 0).1 = r5 ∧ (lapGo a1 l0_4.length l0_4 [] 0).2 = r6 := ⟨h5, h6⟩
  clear h5 h6
  have B0 := lapW_below w a0_0 a0_1 a0_2 (.slice A0_3 l0_3.length c0_3) (.slice A0_4 l0_4.length c0_4)
  have K2 := lapW_res w a0_0 a0_1 a0_2 (.slice A0_3 l0_3.length c0_3) (.slice A0_4 l0_4.length c0_4)
  have hcp := insolvencyref33_copied.calls a0_0 a0_1 a0_2 A0_3 c0_3 l0_3 A0_4 c0_4 l0_4 a0_0 a0_1 a0_2 l0_3 l0_4 _ (Kd.C_below hr0_3 B0) hc0_3 (Kd.C_below hr0_4 B0) hc0_4 (by
    unfold insolvencyref33_copied.f
    rw [Option.bind_some, if_pos (by simp; omega), Option.bind_some, if_pos (by simp; omega), List.nil_append, List.nil_append])
  have R0 := Aside0.mk I0
  have hms := hl.2
  clear hr0_3 hr0_4 I0 hl
  go_enter Try.func45, Try.ntmps45
  go_wp2_with (go_at_call 60; change Calls _ _ _ (lapWorld w a0_0 a0_1 a0_2 (.slice A0_3 l0_3.length c0_3) (.slice A0_4 l0_4.length c0_4)) _; refine hcp.mono ?_; rintro e w1 ⟨v3, v4, rfl, h3, h4, hb⟩; have K3 := blk_below K2 hb; obtain ⟨A3, c3, rfl⟩ := Kd.R_slice h3; obtain ⟨A4, c4, rfl⟩ := Kd.R_slice h4)
  change Code.wp _ _ _ _ (w1.alloc (.cells #[.int .i64 a1, .int .i64 a0_1, .int .i64 a0_2, .slice A3 l0_3.length c3, .slice A4 l0_4.length c4] 30 (0, 0)))
  have S0 : LapSt w (w1.alloc (.cells #[.int .i64 a1, .int .i64 a0_1, .int .i64 a0_2, .slice A3 l0_3.length c3, .slice A4 l0_4.length c4] 30 (0, 0))) w1.heap.size (w.heap.size + 1) a1 a0_1 a0_2 (.slice A3 l0_3.length c3) (.slice A4 l0_4.length c4) (.slice none 0 0) l0_3 l0_4 [] :=
    ⟨below_alloc (below_step B0 hb) _, blk_new _ _, blk_alloc K3 _, Kd.R_alloc (Kd.R_lower h3 B0.size) _, Kd.R_alloc (Kd.R_lower h4 B0.size) _, Kd.R_nil _ _ _ _ _⟩
  have nZ : w1.heap.size ≠ w.heap.size + 1 := Nat.ne_of_gt (blk_lt K3)
  have eZ : w.heap.size ≤ w.heap.size + 1 := Nat.le_succ _
  generalize w1.alloc (.cells #[.int .i64 a1, .int .i64 a0_1, .int .i64 a0_2, .slice A3 l0_3.length c3, .slice A4 l0_4.length c4] 30 (0, 0)) = W2 at *
  generalize w1.heap.size = gO at *
  generalize w.heap.size + 1 = gZ at *
  have SS := Aside0.mk S0
  clear hcp B0 K2 K3 h3 h4 hb S0 w1
  go_loopg [7, 8] (l0_4.length) (fun kx s7 s8 wr => ∃ (i : Nat) (ms : List S50) (l : List S52), s8 = .int .i64 i ∧ i ≤ l0_4.length ∧ l0_4.length - i ≤ kx ∧ ms.length = l0_4.length ∧ l.length ≤ i ∧
    Aside0 (LapSt w wr gO gZ a1 a0_1 a0_2 (.slice A3 l0_3.length c3) (.slice A4 l0_4.length c4) s7 l0_3 ms l) ∧ Aside0 ((lapGo a1 (l0_4.length - i) ms l i).1 = r5 ∧ (lapGo a1 (l0_4.length - i) ms l i).2 = r6))
  case atStart => exact ⟨0, l0_4, [], rfl, Nat.zero_le _, by omega, rfl, Nat.le_refl _, SS, R0⟩
  case round =>
    obtain ⟨i, ms, l, rfl, hi, hk, hml, hll, S, I⟩ := hrel
    clear R0 SS
    obtain ⟨A5, c5, rfl⟩ := Kd.R_slice S.out.r5
    obtain ⟨o0, o1, o2, o3, o4⟩ := cells5 ⟨S.out.o⟩
    by_cases hlt : i < l0_4.length
    · obtain ⟨k1, rfl⟩ : ∃ m, gk = m + 1 := ⟨gk - 1, by omega⟩
      have hd : decide ((i : Int) < (l0_4.length : Int)) = true := decide_eq_true (by omega)
      have p0 : 0 ≤ (i : Int) := Int.natCast_nonneg i
      have q0 : (i : Int) < ((l0_4.length : Nat) : Int) := by omega
      have HW := Aside0.mk (show wrap64 ((i : Int) + 1) = ((i + 1 : Nat) : Int) by unfold wrap64; omega)
      obtain ⟨g4, c4', eq4, -, hg4, -⟩ := Kd.R_form S.out.r4 (by omega)
      injection eq4 with eA eB eC
      subst eA
      clear eB eC c4'
      have I2 := I.out
      rw [show l0_4.length - i = (l0_4.length - (i + 1)) + 1 by omega, lapGo] at I2
      generalize hm : rd_T50 ms (i : Int) = m at *
      obtain ⟨⟨m0, m1, m2, m3, m4⟩, f1, f2, f4⟩ := elm5 S.out.r4 (i : Int) p0 q0 m hm
      rw [Int.toNat_natCast] at m0 m1 m2 m3 m4 f1 f2 f4
      have p1 := eq_true p0
      have q1 := eq_true q0
      have hru := insolvencyref33_runs.calls m.f0 m.f1 m.f2 m.f3 m.f4 (m.f1 == 2 || m.f1 == 4) wr (by
        unfold insolvencyref33_runs.f
        by_cases h2 : m.f1 = 2
        · simp [h2]
        · rw [if_neg h2]
          simp [h2])
      clear I
      by_cases hrun : (m.f1 == 2 || m.f1 == 4) = true
      · rw [hrun] at hru
        by_cases hdue : m.f2 < a1
        · have hd2 : decide (m.f2 ≥ a1) = false := decide_eq_false (by omega)
          have hd3 : decide (a1 ≤ m.f2) = false := decide_eq_false (by omega)
          have hl2 : lapses2 a1 m = true := by unfold lapses2; rw [hrun, decide_eq_true hdue]; rfl
          rw [if_pos hl2] at I2
          have I3 := Aside0.mk I2
          clear I2
          go_upto_region 9 with (go_at_call 43; refine hru.mono ?_; rintro e w2 ⟨rfl, hb⟩; have S2 := S.out.below hb; have m2' := pw_cell_below hb m2)
          clear S hru o0 o1 o2 o3 o4 m0 m1 m2 m3 m4 f1 f2 f4 m2' hd hd2 hd3
          obtain ⟨⟨m0, m1, m2, m3, m4⟩, f1, f2, f4⟩ := elm5 S2.r4 (i : Int) p0 q0 m hm
          rw [Int.toNat_natCast] at m0 m1 m2 m3 m4 f1 f2 f4
          have S3 := Aside0.mk S2
          clear S2
          go_region_held3 (fun w_ => w_.cell? ⟨g4, i * 5, none⟩ = some (.int .i64 m.f0) ∧ w_.cell? ⟨g4, i * 5 + 2, none⟩ = some (.int .i64 m.f2) ∧ w_.cell? ⟨g4, i * 5 + 3, none⟩ = some (.int .i64 m.f3)) (first | exact ⟨m0, m2, m3⟩ | go_keep) (fail)
          change Exit.then _ _ _ _ (w2.alloc (.cells #[.int .i64 m.f0, .int .i64 (IntKind.i64.wrap (m.f2 + 1)), .int .i64 m.f3] 52 (0, 0))).drew
          rw [i64_w]
          have hlt4 := World.block_lt_of_cell? w2 _ m0
          have S4 := S3.out.below (below_drew1 (below_alloc (Below.refl w2.heap.size w2) (.cells #[.int .i64 m.f0, .int .i64 (wrap64 (m.f2 + 1)), .int .i64 m.f3] 52 (0, 0))))
          have KR := blk_drew (blk_new w2 (.cells #[.int .i64 m.f0, .int .i64 (wrap64 (m.f2 + 1)), .int .i64 m.f3] 52 (0, 0)))
          have nR : w2.heap.size ≠ g4 := Nat.ne_of_gt hlt4
          have nRZ : w2.heap.size ≠ gZ := Nat.ne_of_gt (blk_lt S3.out.z)
          have nRO : w2.heap.size ≠ gO := Nat.ne_of_gt (blk_lt S3.out.o)
          have nR5 : some w2.heap.size ≠ (Value.slice A5 l.length c5).ownBlock := fun he => by have := Kd.R_lt S3.out.r5 _ he.symm; omega
          generalize hdu : wrap64 (m.f2 + 1) = due1 at *
          generalize (w2.alloc (.cells #[.int .i64 m.f0, .int .i64 due1, .int .i64 m.f3] 52 (0, 0))).drew = W3 at *
          generalize w2.heap.size = gR at *
          clear S3 m0 m1 m2 m3 m4 f1 f2 f4 hlt4
          obtain ⟨⟨m0, m1, m2, m3, m4⟩, f1, f2, f4⟩ := elm5 S4.r4 (i : Int) p0 q0 m hm
          rw [Int.toNat_natCast] at m0 m1 m2 m3 m4 f1 f2 f4
          have S5 := Aside0.mk (S4.lapse i hlt hml m hm)
          have KR2 := Aside0.mk (blk_far (p := ⟨g4, i * 5 + 2, none⟩) (blk_far (p := ⟨g4, i * 5 + 1, none⟩) (blk_far (p := ⟨g4, i * 5 + 4, none⟩) KR nR (.bool (m.f1 == 2))) nR (.int .i64 6)) nR (.int .i64 0))
          clear S4 KR
          go_upto_block 2 with (fail)
          generalize ((W3.setCell ⟨g4, i * 5 + 4, none⟩ (.bool (m.f1 == 2))).setCell ⟨g4, i * 5 + 1, none⟩ (.int .i64 6)).setCell ⟨g4, i * 5 + 2, none⟩ (.int .i64 0) = W4 at *
          clear m0 m1 m2 m3 m4 f1 f2 f4 p1 q1 hlt hrun hl2 hdue
          obtain ⟨P, hP⟩ : ∃ P, posR l ⟨m.f0, due1, m.f3⟩ l.length = P := ⟨_, rfl⟩
          have hPl : P ≤ l.length := by rw [← hP]; exact posR_le _ _ _
          have HP := Aside0.mk hP
          clear hP
          go_cut [11] (fun s11 wc => s11 = .int .i64 (P : Int) ∧ Aside0 (LapSt w wc gO gZ a1 a0_1 a0_2 (.slice A3 l0_3.length c3) (.slice (some ⟨g4, 0, none⟩) l0_4.length c4) (.slice A5 l.length c5) l0_3 (ms.set i (lapM2 a1 m)) l) ∧ Aside0 (wc.heap[gR]? = some (.cells #[.int .i64 m.f0, .int .i64 due1, .int .i64 m.f3] 52 (0, 0))))
          case first =>
            go_wp2_with (fail)
            have hlb : l.length < 1000000 := by omega
            clear I3 HW hml hi hk hll nR nRZ nRO nR5 nZ eZ hm hdu p0 q0
            go_loopg [11] (l.length) (fun ky s11 wr1 => ∃ p : Nat, s11 = .int .i64 (p : Int) ∧ p ≤ l.length ∧ p ≤ ky ∧ Aside0 (posR l ⟨m.f0, due1, m.f3⟩ p = P) ∧ Aside0 (LapSt w wr1 gO gZ a1 a0_1 a0_2 (.slice A3 l0_3.length c3) (.slice (some ⟨g4, 0, none⟩) l0_4.length c4) (.slice A5 l.length c5) l0_3 (ms.set i (lapM2 a1 m)) l) ∧ Aside0 (wr1.heap[gR]? = some (.cells #[.int .i64 m.f0, .int .i64 due1, .int .i64 m.f3] 52 (0, 0))))
            case atStart => exact ⟨l.length, rfl, Nat.le_refl _, Nat.le_refl _, HP, S5, KR2⟩
            case round =>
              obtain ⟨p, rfl, hp, hky, I4, S6, KR6⟩ := hrel
              clear S5 KR2 HP
              cases p with
              | zero =>
                have e0 := I4.out
                rw [posR] at e0
                subst e0
                clear I4
                have h0 : decide ((0 : Int) < 0) = false := rfl
                go_wp2_with (fail)
                go_quiet (fail)
                go_wp2
                go_meet
                exact ⟨rfl, ⟨S6.out.below (pw_below_drewN (Below.refl _ _) _)⟩, ⟨blk_drewN KR6.out _⟩⟩
              | succ p =>
                obtain ⟨g5, c5', eq5, -, hg5, -⟩ := Kd.R_form S6.out.r5 (by omega)
                injection eq5 with eA5 eB5 eC5
                subst eA5
                clear eB5 eC5 c5'
                have hp1 : p < l.length := by omega
                have I5 := I4.out
                rw [posR] at I5
                generalize hx : rd_T52 l (p : Int) = x at *
                obtain ⟨⟨y0, y1, y2⟩, -⟩ := elmR S6.out.r5 p hp1 x hx
                obtain ⟨b0, b1, b2⟩ := cells3 KR6
                have hq1 : (((p + 1 : Nat) : Int)) = (p : Int) + 1 := by omega
                generalize (((p + 1 : Nat) : Int)) = q at *
                have HQ := Aside0.mk hq1
                have h0 : decide (0 < q) = true := decide_eq_true (by omega)
                have e1 : IntKind.i64.wrap (q - 1) = (p : Int) := by rw [i64_w]; unfold wrap64; omega
                have E1 := Aside0.mk e1
                clear e1 hq1
                have u1 : (0 ≤ (p : Int)) = True := eq_true (by omega)
                have u2 : ((p : Int) < (l.length : Int)) = True := eq_true (by omega)
                clear I4
                obtain ⟨k2, rfl⟩ : ∃ m, gk = m + 1 := ⟨gk - 1, by omega⟩
                have hq0 : q = (p : Int) + 1 := HQ.out
                have eG : gtR x ⟨m.f0, due1, m.f3⟩ = (decide (due1 < x.f1) || (x.f1 == due1 && decide (m.f0 < x.f0))) := rfl
                rw [eG] at I5
                clear eG hq0
                by_cases g1 : due1 < x.f1
                · have d1 : decide (due1 < x.f1) = true := decide_eq_true g1
                  rw [d1, Bool.true_or, if_pos rfl] at I5
                  have I6 := Aside0.mk I5
                  have e1 := E1.out
                  clear I5 E1 g1
                  go_wp2_with (fail)
                  go_quiet (fail)
                  go_wp2
                  go_roundg k2
                  case measure => omega
                  case rel => exact ⟨p, by first | rfl | (simp only [e1]; done) | (rw [← i64_w, e1]; done) | (simp; done), by omega, by omega, I6, ⟨S6.out.below (pw_below_drewN (Below.refl _ _) _)⟩, ⟨blk_drewN KR6.out _⟩⟩
                have d1 : decide (due1 < x.f1) = false := decide_eq_false g1
                rw [d1, Bool.false_or] at I5
                by_cases g2 : x.f1 = due1
                · have d2 : (x.f1 == due1) = true := by simpa using g2
                  rw [d2, Bool.true_and] at I5
                  by_cases g3 : m.f0 < x.f0
                  · have d3 : decide (m.f0 < x.f0) = true := decide_eq_true g3
                    rw [d3, if_pos rfl] at I5
                    have I6 := Aside0.mk I5
                    have e1 := E1.out
                    clear I5 E1 g1 g2 g3
                    go_wp2_with (fail)
                    go_quiet (fail)
                    go_wp2
                    go_roundg k2
                    case measure => omega
                    case rel => exact ⟨p, by first | rfl | (simp only [e1]; done) | (rw [← i64_w, e1]; done) | (simp; done), by omega, by omega, I6, ⟨S6.out.below (pw_below_drewN (Below.refl _ _) _)⟩, ⟨blk_drewN KR6.out _⟩⟩
                  · have d3 : decide (m.f0 < x.f0) = false := decide_eq_false g3
                    rw [d3, if_neg (by decide)] at I5
                    have e1 := E1.out
                    have hP := I5
                    clear I5 E1 g1 g2 g3
                    go_wp2_with (fail)
                    go_quiet (fail)
                    go_wp2
                    go_meet
                    exact ⟨by rw [← hP, HQ.out]; rfl, ⟨S6.out.below (pw_below_drewN (Below.refl _ _) _)⟩, ⟨blk_drewN KR6.out _⟩⟩
                · have d2 : (x.f1 == due1) = false := by simpa using g2
                  rw [d2, Bool.false_and, if_neg (by decide)] at I5
                  have e1 := E1.out
                  have hP := I5
                  clear I5 E1 g1 g2
                  go_wp2_with (fail)
                  go_quiet (fail)
                  go_wp2
                  go_meet
                  exact ⟨by rw [← hP, HQ.out]; rfl, ⟨S6.out.below (pw_below_drewN (Below.refl _ _) _)⟩, ⟨blk_drewN KR6.out _⟩⟩
          case rest =>
            obtain ⟨rfl, S6, KR6⟩ := hcut
            clear S5 KR2
            have hlb : l.length < 1000000 := by omega
            have e9 : wrap64 (((l.length + 1 : Nat) : Int) - 1) = (l.length : Int) := by unfold wrap64; omega
            have e9' : wrap64 ((l.length : Int) + 1 - 1) = (l.length : Int) := by unfold wrap64; omega
            have E9 := Aside0.mk e9
            clear e9 e9'
            go_upto_block 4 with ((with_reducible refine gate_builtin (b := .append) (xs := #[.tmp 108, .tmp 110]) rfl ?_); at_builtin; refine Kd.R_append k52 (w0 := w) w.heap.size rfl (.tmp 108) (.tmp 110) 32 52 (.agg #[(.int .i64 0), (.int .i64 0), (.int .i64 0)]) 24 rfl Try.underlying32 info52 rfl (by decide) (by omega) _ l (⟨0, 0, 0⟩ : S52) [.int .i64 0, .int .i64 0, .int .i64 0] (fun _ => True) (fun _ => False) rfl rfl ?aP (fun _ hk => hk.elim) ?aF ?aO ?aB ?aS ?aL ?_; (case aP => exact k52_mkM _ _ _ (⟨0, 0, 0⟩ : S52)); (case aB => exact S6.out.b); (case aF => exact (fun _ _ => trivial)); (case aO => exact S6.out.r5); (case aS => exact S6.out.b.size); (case aL => omega); intro v6 w6 ho6 hb6 hgr hat; obtain ⟨A6, c6, rfl⟩ := Kd.R_slice ho6; change World.grownBy _ w6 (Value.slice A5 l.length c5).ownBlock at hgr)
            have S7 := S6.out.setR hgr (Kd.R_mono ho6 (fun _ _ => trivial))
            have KR7 := blk_grown KR6.out hgr nR5
            have nR6' : some gR ≠ (Value.slice A6 (l ++ [(⟨0, 0, 0⟩ : S52)]).length c6).ownBlock := by
              rcases hat with e | ⟨b, e, hb⟩
              · exact fun he => nR5 (he.trans e)
              · rw [e]
                intro he
                have := blk_lt KR6.out
                injection he with he
                omega
            clear S6 KR6 hgr hat ho6 hb6
            have hln : (l ++ [(⟨0, 0, 0⟩ : S52)]).length = l.length + 1 := by simp
            rw [hln] at S7
            obtain ⟨g6, c6', eq6, -, hg6, -⟩ := Kd.R_form S7.r5 (by omega)
            injection eq6 with eA6 eB6 eC6
            subst eA6
            clear eB6 eC6 c6'
            have nR6 : gR ≠ g6 := fun he => nR6' (by rw [he]; simp [Value.ownBlock])
            clear nR6'
            obtain ⟨SH, hSH⟩ : ∃ SH, shR (l ++ [⟨0, 0, 0⟩]) P l.length = SH := ⟨_, rfl⟩
            have HINS := Aside0.mk (show SH.set P ⟨m.f0, due1, m.f3⟩ = insR l (lapR2 m) by
              rw [← hSH]
              unfold insR lapR2
              rw [hdu, HP.out])
            have HS := Aside0.mk hSH
            have S8 := Aside0.mk S7
            have KR8 := Aside0.mk KR7
            clear hSH S7 KR7
            generalize (l ++ [(⟨0, 0, 0⟩ : S52)]) = L0 at *
            go_wp2_with (fail)
            go_loopg [12] (l.length) (fun ky s12 wr2 => ∃ (j : Nat) (L : List S52), s12 = .int .i64 (j : Int) ∧ j ≤ l.length ∧ j ≤ ky ∧ L.length = l.length + 1 ∧ Aside0 (shR L P j = SH) ∧ Aside0 (LapSt w wr2 gO gZ a1 a0_1 a0_2 (.slice A3 l0_3.length c3) (.slice (some ⟨g4, 0, none⟩) l0_4.length c4) (.slice (some ⟨g6, 0, none⟩) (l.length + 1) c6) l0_3 (ms.set i (lapM2 a1 m)) L) ∧ Aside0 (wr2.heap[gR]? = some (.cells #[.int .i64 m.f0, .int .i64 due1, .int .i64 m.f3] 52 (0, 0))))
            case atStart => exact ⟨l.length, L0, rfl, Nat.le_refl _, Nat.le_refl _, hln, HS, S8, KR8⟩
            case round =>
              obtain ⟨j, L, rfl, hj, hky, hL, I4, S9, KR9⟩ := hrel
              clear S8 KR8 HS hln L0
              by_cases hPj : P < j
              · obtain ⟨j, rfl⟩ : ∃ j', j = j' + 1 := ⟨j - 1, by omega⟩
                have I5 := I4.out
                rw [shR, if_pos hPj] at I5
                have I6 := Aside0.mk I5
                clear I5 I4
                generalize hx : rd_T52 L (j : Int) = x at *
                obtain ⟨⟨y0, y1, y2⟩, -⟩ := elmR S9.out.r5 j (by omega) x hx
                obtain ⟨⟨t0, t1, t2⟩, f0, f1, f2⟩ := elmR S9.out.r5 (j + 1) (by omega) _ rfl
                have hp := putR S9.out.r5 (j + 1) (by omega) x
                obtain ⟨k2, rfl⟩ : ∃ m, gk = m + 1 := ⟨gk - 1, by omega⟩
                have hq1 : (((j + 1 : Nat) : Int)) = (j : Int) + 1 := by omega
                have hqt : (((j + 1 : Nat) : Int)).toNat = j + 1 := Int.toNat_natCast _
                generalize (((j + 1 : Nat) : Int)) = q at *
                have h0 : decide ((P : Int) < q) = true := decide_eq_true (by omega)
                have u1 : (0 ≤ (j : Int)) = True := eq_true (by omega)
                have u2 : ((j : Int) < (l.length : Int) + 1) = True := eq_true (by omega)
                have u2' : ((j : Int) < ((l.length + 1 : Nat) : Int)) = True := eq_true (by omega)
                have u3 : (0 ≤ q) = True := eq_true (by omega)
                have u4 : (q < (l.length : Int) + 1) = True := eq_true (by omega)
                have u4' : (q < ((l.length + 1 : Nat) : Int)) = True := eq_true (by omega)
                have hjb : j < 1000000 := by omega
                have e1 : wrap64 (q - 1) = (j : Int) := by unfold wrap64; omega
                have HQ := Aside0.mk hq1
                have S10 := S9.out.setR hp.2 hp.1
                have KR10 := blk_far (p := ⟨g6, (j + 1) * 3 + 2, none⟩) (blk_far (p := ⟨g6, (j + 1) * 3 + 1, none⟩) (blk_far (p := ⟨g6, (j + 1) * 3, none⟩) KR9.out nR6 (.int .i64 x.f0)) nR6 (.int .i64 x.f1)) nR6 (.int .i64 x.f2)
                have HS10 := Aside0.mk S10
                have HK10 := Aside0.mk KR10
                clear hq1 hi hk hll hPl hml hPj S10 KR10 hp S9 KR9
                go_wp2
                have hqj : q - 1 = (j : Int) := by have := HQ.out; omega
                go_roundg k2
                case measure => omega
                case rel => exact ⟨j, L.set (j + 1) x, by first | rw [hqj] | (rw [e1]; done) | (simp only [e1]; done), by omega, by omega, by rw [List.length_set]; exact hL, I6, HS10, HK10⟩
              · have hd9 : decide ((P : Int) < (j : Int)) = false := decide_eq_false (by omega)
                have hd9n : decide (P < j) = false := decide_eq_false hPj
                have I5 : L = SH := by
                  have := I4.out
                  cases j with
                  | zero => exact this
                  | succ j => rw [shR, if_neg hPj] at this; exact this
                obtain rfl := I5
                obtain ⟨b0, b1, b2⟩ := cells3 KR9
                obtain ⟨⟨t0, t1, t2⟩, f0, f1, f2⟩ := elmR S9.out.r5 P (by omega) _ rfl
                have hp := putR S9.out.r5 P (by omega) ⟨m.f0, due1, m.f3⟩
                have u3 : (0 ≤ (P : Int)) = True := eq_true (by omega)
                have u4 : ((P : Int) < (l.length : Int) + 1) = True := eq_true (by omega)
                have u4' : ((P : Int) < ((l.length + 1 : Nat) : Int)) = True := eq_true (by omega)
                have S10 := Aside0.mk (S9.out.setR hp.2 hp.1)
                have hsl : (ms.set i (lapM2 a1 m)).length = l0_4.length := by rw [List.length_set]; exact hml
                clear hp I4 S9 hPj
                go_wp2
                go_roundg k1
                case measure => omega
                case rel => exact ⟨i + 1, ms.set i (lapM2 a1 m), insR l (lapR2 m), by first | rw [HW.out] | (simp only [HW.out]; done) | go_num, by omega, by omega, hsl, by rw [insR_length]; omega, ⟨by have := S10.out; rw [HINS.out] at this; exact this⟩, I3⟩
        · have hd2 : decide (m.f2 ≥ a1) = true := decide_eq_true (by omega)
          have hd3 : decide (a1 ≤ m.f2) = true := decide_eq_true (by omega)
          have hl2 : lapses2 a1 m = false := by unfold lapses2; rw [decide_eq_false hdue, Bool.and_false]
          rw [hl2, if_neg (by decide)] at I2
          have I3 := Aside0.mk I2
          clear I2 p0 q0
          go_wp2_with (go_at_call 43; refine hru.mono ?_; rintro e w2 ⟨rfl, hb⟩; have S2 := S.out.below hb; have m2' := pw_cell_below hb m2)
          go_roundg k1
          case measure => omega
          case rel => exact ⟨i + 1, ms, l, by first | rw [HW.out] | (simp only [HW.out]; done) | go_num, by omega, by omega, hml, by omega, ⟨S2⟩, I3⟩
      · rw [Bool.not_eq_true] at hrun
        rw [hrun] at hru
        have hl2 : lapses2 a1 m = false := by unfold lapses2; rw [hrun, Bool.false_and]
        rw [hl2, if_neg (by decide)] at I2
        have I3 := Aside0.mk I2
        clear I2 p0 q0
        go_wp2_with (go_at_call 43; refine hru.mono ?_; rintro e w2 ⟨rfl, hb⟩; have S2 := S.out.below hb)
        go_roundg k1
        case measure => omega
        case rel => exact ⟨i + 1, ms, l, by first | rw [HW.out] | (simp only [HW.out]; done) | go_num, by omega, by omega, hml, by omega, ⟨S2⟩, I3⟩
    · obtain rfl : i = l0_4.length := by omega
      have I2 := I.out
      rw [Nat.sub_self, lapGo] at I2
      obtain ⟨e5, e6⟩ := I2
      subst e5 e6
      have hd : decide ((l0_4.length : Int) < (l0_4.length : Int)) = false := decide_eq_false (by omega)
      obtain ⟨z0, z1, z2, z3, z4⟩ := cells5 ⟨S.out.z⟩
      obtain ⟨x0, x1, x2, x3, x4⟩ := frz5 ⟨S.out.z⟩
      clear I
      go_wp2
      refine bodyPost_ret (results_ct rfl _ _ gZ 30 _ (0, 0) _ rfl (five_blk S.out.z _ _ _ _ _) Try.underlying30 rfl (by kernel_rfl)) rfl ?_
      rw [hml] at *
      exact ⟨_, _, _, rfl, five_R S.out.r3 S.out.z (by decide) _ _ _ _ _, five_R S.out.r4 S.out.z (by decide) _ _ _ _ _, five_R S.out.r5 S.out.z (by decide) _ _ _ _ _, five_below S.out.b eZ _ _ _ _ _⟩
end Go.Proofs.Ytpfiecjacpbhkaa.D

/- What the Go functions named below come to, each told as_ a Lean function ('.f'), with the proof ('.calls'): no condition beyond those that each theorem states. Written by a program of this session's over the translation. -/
namespace Go.Proofs.Ytpfiecjacpbhkaa.D
open Go.RowKit Go.Proofs.YtpfiecjacpbhkaaW.PrintWords Go.Proofs.YtpfiecjacpbhkaaW.PrintLast Go.Proofs.YtpfiecjacpbhkaaW.PrintMore
attribute [local go_sem] max2_int min2_int max_two min_two max_three min_three max_four min_four   -- for this text's walks alone
set_option linter.unusedVariables false
set_option linter.unusedSimpArgs false

/-! ### insolvencyref33_Advance: function 27 -/
def insolvencyref33_Advance.f (k : Nat) (a0_0 : Int) (a0_1 : Int) (a0_2 : Int) (l0_3 : List Int) (l0_4 : List (S50)) (a1 : Int) : Option (Int × Int × Int × List Int × (List (S50)) × (List (S52)) × Int) := (insolvencyref33_CheckDocket.f k a0_0 a0_1 a0_2 l0_3 l0_4).bind fun t482 => (if t482 = 0 then ((insolvencyref33_day.f a1).bind fun t483 => (if t483 = true then (if a1 < a0_0 then (some (0, 0, 0, ([] : List Int), ([] : List (S50)), ([] : List (S52)), 15)) else ((insolvencyref33_lapsed.f k a0_0 a0_1 a0_2 l0_3 l0_4 a1).bind fun bt484 => (some (bt484.1, bt484.2.1, bt484.2.2.1, bt484.2.2.2.1, bt484.2.2.2.2.1, bt484.2.2.2.2.2, 0)))) else (some (0, 0, 0, ([] : List Int), ([] : List (S50)), ([] : List (S52)), 1)))) else (some (0, 0, 0, ([] : List Int), ([] : List (S50)), ([] : List (S52)), t482)))
theorem insolvencyref33_Advance.mono : ∀ a0 a1 a2 a3 a4 a5 k, LeO (insolvencyref33_Advance.f k a0 a1 a2 a3 a4 a5) (insolvencyref33_Advance.f (k + 1) a0 a1 a2 a3 a4 a5) := by
 intro a0 a1 a2 a3 a4 a5 k
 unfold insolvencyref33_Advance.f
 repeat' first
   | (with_reducible exact insolvencyref33_CheckDocket.mono _ _ _ _ _ _)
   | (with_reducible exact insolvencyref33_lapsed.mono _ _ _ _ _ _ _)
   | (with_reducible exact LeO.refl _)
   | (with_reducible exact LeO.none _)
   | (with_reducible refine LeO.ite ?_ ?_)
   | (with_reducible refine LeO.bind ?_ (fun _ => ?_))
   | exact insolvencyref33_CheckDocket.mono _ _ _ _ _ _
   | exact insolvencyref33_lapsed.mono _ _ _ _ _ _ _
   | exact LeO.none _
   | refine LeO.ite ?_ ?_
   | refine LeO.bind ?_ (fun _ => ?_)
set_option maxHeartbeats 8000000 in
set_option maxRecDepth 100000 in
theorem insolvencyref33_Advance.calls (k : Nat) (a0_0 : Int) (a0_1 : Int) (a0_2 : Int) (A0_3 : Option Addr) (c0_3 : Nat) (l0_3 : List Int) (A0_4 : Option Addr) (c0_4 : Nat) (l0_4 : List (S50)) (a1 : Int) (r1 : Int) (r2 : Int) (r3 : Int) (r4 : List Int) (r5 : List (S50)) (r6 : List (S52)) (r7 : Int) (w : World) (hr0_3 : Kd.C (Kd.int .i64) w A0_3 l0_3.length l0_3) (hc0_3 : l0_3.length ≤ c0_3) (hr0_4 : Kd.C k50 w A0_4 l0_4.length l0_4) (hc0_4 : l0_4.length ≤ c0_4) (h : insolvencyref33_Advance.f k a0_0 a0_1 a0_2 l0_3 l0_4 a1 = some (r1, r2, r3, r4, r5, r6, r7)) :
  Calls Try.prog 27 #[.agg #[.int .i64 a0_0, .int .i64 a0_1, .int .i64 a0_2, .slice A0_3 l0_3.length c0_3, .slice A0_4 l0_4.length c0_4], .int .i64 a1] w fun e w' => ∃ v3_ v4_ v5_ : Value, e = .returned (.tuple #[.agg #[.int .i64 r1, .int .i64 r2, .int .i64 r3, v3_, v4_], v5_, .int .i64 r7]) ∧ Kd.R (Kd.int .i64) 3 w' w.heap.size (fun _ => True) v3_ r4 ∧ Kd.R k50 50 w' w.heap.size (fun _ => True) v4_ r5 ∧ Kd.R k52 52 w' w.heap.size (fun _ => True) v5_ r6 ∧ Below w.heap.size w w' := by
 have hu30 := Try.underlying30
 have HR0_3 := Aside0.mk hr0_3
 have HC0_3 := Aside0.mk hc0_3
 clear hr0_3 hc0_3
 have HR0_4 := Aside0.mk hr0_4
 have HC0_4 := Aside0.mk hc0_4
 clear hr0_4 hc0_4
 have HB := Aside0.mk (Below.refl w.heap.size w)
 have H : ((insolvencyref33_CheckDocket.f k a0_0 a0_1 a0_2 l0_3 l0_4).bind fun t482 => (if t482 = 0 then ((insolvencyref33_day.f a1).bind fun t483 => (if t483 = true then (if a1 < a0_0 then (some (0, 0, 0, ([] : List Int), ([] : List (S50)), ([] : List (S52)), 15)) else ((insolvencyref33_lapsed.f k a0_0 a0_1 a0_2 l0_3 l0_4 a1).bind fun bt484 => (some (bt484.1, bt484.2.1, bt484.2.2.1, bt484.2.2.2.1, bt484.2.2.2.2.1, bt484.2.2.2.2.2, 0)))) else (some (0, 0, 0, ([] : List Int), ([] : List (S50)), ([] : List (S52)), 1)))) else (some (0, 0, 0, ([] : List Int), ([] : List (S50)), ([] : List (S52)), t482)))) = some (r1, r2, r3, r4, r5, r6, r7) := h
 clear h
 replace H := Option.bind_eq_some_iff.mp H
 obtain ⟨t482, A30, H⟩ := H
 replace H : (if t482 = 0 then ((insolvencyref33_day.f a1).bind fun t483 => (if t483 = true then (if a1 < a0_0 then (some (0, 0, 0, ([] : List Int), ([] : List (S50)), ([] : List (S52)), 15)) else ((insolvencyref33_lapsed.f k a0_0 a0_1 a0_2 l0_3 l0_4 a1).bind fun bt484 => (some (bt484.1, bt484.2.1, bt484.2.2.1, bt484.2.2.2.1, bt484.2.2.2.2.1, bt484.2.2.2.2.2, 0)))) else (some (0, 0, 0, ([] : List Int), ([] : List (S50)), ([] : List (S52)), 1)))) else (some (0, 0, 0, ([] : List Int), ([] : List (S50)), ([] : List (S52)), t482))) = some (r1, r2, r3, r4, r5, r6, r7) := H
 have A3 := Aside0.mk A30
 clear A30
 by_cases c4 : t482 = 0
 ·rw [if_pos c4] at H
  have c4b0 : (t482 == 0) = true := beq_iff_eq.mpr c4
  have c4b1 : (t482 != 0) = false := bne_eq_false_iff_eq.mpr c4
  clear c4
  replace H := Option.bind_eq_some_iff.mp H
  obtain ⟨t483, A50, H⟩ := H
  replace H : (if t483 = true then (if a1 < a0_0 then (some (0, 0, 0, ([] : List Int), ([] : List (S50)), ([] : List (S52)), 15)) else ((insolvencyref33_lapsed.f k a0_0 a0_1 a0_2 l0_3 l0_4 a1).bind fun bt484 => (some (bt484.1, bt484.2.1, bt484.2.2.1, bt484.2.2.2.1, bt484.2.2.2.2.1, bt484.2.2.2.2.2, 0)))) else (some (0, 0, 0, ([] : List Int), ([] : List (S50)), ([] : List (S52)), 1))) = some (r1, r2, r3, r4, r5, r6, r7) := H
  have A5 := Aside0.mk A50
  clear A50
  by_cases c6 : t483 = true
  ·subst c6
   have H1 : (if a1 < a0_0 then (some (0, 0, 0, ([] : List Int), ([] : List (S50)), ([] : List (S52)), 15)) else ((insolvencyref33_lapsed.f k a0_0 a0_1 a0_2 l0_3 l0_4 a1).bind fun bt484 => (some (bt484.1, bt484.2.1, bt484.2.2.1, bt484.2.2.2.1, bt484.2.2.2.2.1, bt484.2.2.2.2.2, 0)))) = some (r1, r2, r3, r4, r5, r6, r7) := by rw [if_pos rfl] at H; exact H
   clear H
   have H := H1
   clear H1
   by_cases c7 : a1 < a0_0
   ·rw [if_pos c7] at H
    have c7b0 : decide (a1 < a0_0) = true := decide_eq_true c7
    clear c7
    simp only [Option.some.injEq, Prod.mk.injEq] at H
    obtain ⟨rfl, rfl, rfl, rfl, rfl, rfl, rfl⟩ := H
    go_enter Try.func27, Try.ntmps27
    go_wp2_with (first | ((with_reducible refine gate_dst (N := 2) rfl ?_); refine boxE (N := 2) #[.int .i64 a0_0, .int .i64 a0_1, .int .i64 a0_2, .slice A0_3 l0_3.length c0_3, .slice A0_4 l0_4.length c0_4] 30 ?_; intro gb480 hg w8 hbox hb; have BK480 := Aside0.mk (hbox); have GW480 := gS HB hg; have GE480 := gS HB hg; replace HB := Aside0.mk (below_step (pB HB) hb); clear hb hbox hg) | ((with_reducible refine gate_dst (N := 4) rfl ?_); refine boxE (N := 4) #[.int .i64 0, .int .i64 0, .int .i64 0, .slice none 0 0, .slice none 0 0] 30 ?_; intro gb481 hg w9 hbox hb; have BK481 := Aside0.mk (hbox); have GW481 := gS HB hg; have GE481 := gS HB hg; have NB480_481 := nL BK480 hg; have NB481_480 := nG BK480 hg; replace BK480 := bB BK480 hb; replace HB := Aside0.mk (below_step (pB HB) hb); clear hb hbox hg; have hnb10 := NB480_481.out; have hnc10 := NB481_480.out; obtain ⟨hcz11_0, hcz11_1, hcz11_2, hcz11_3, hcz11_4⟩ := cells5 BK480; obtain ⟨hfz11_0, hfz11_1, hfz11_2, hfz11_3, hfz11_4⟩ := frz5 BK480) | ((with_reducible refine gate_callee (f := 24) rfl ?_); refine goesL_ (some 11) rfl rfl Try.func24 (by kernel_rfl) rfl #[.agg #[.int .i64 a0_0, .int .i64 a0_1, .int .i64 a0_2, .slice A0_3 l0_3.length c0_3, .slice A0_4 l0_4.length c0_4]] rfl (by (try simp only [List.map_toArray, List.map_cons, List.map_nil]); first | done | rfl | (simp only [List.length_drop, List.length_take]; rfl)) ?_; (with_reducible refine (insolvencyref33_CheckDocket.calls k a0_0 a0_1 a0_2 _ _ l0_3 _ _ l0_4 t482 _ ?side1 ?side2 ?side3 ?side4 A3.out).mono ?_); (case side1 => exact cB HR0_3 HB); (case side2 => exact HC0_3.out); (case side3 => exact cB HR0_4 HB); (case side4 => exact HC0_4.out); rintro e w12 ⟨rfl, hb⟩; refine ⟨_, rfl, ?_⟩; replace BK480 := bB BK480 hb; replace BK481 := bB BK481 hb; replace HB := Aside0.mk (below_step (pB HB) hb); (try clear hb)) | ((with_reducible refine gate_callee (f := 44) rfl ?_); refine goesL_ (some 17) rfl rfl Try.func44 (by kernel_rfl) rfl #[.int .i64 a1] rfl (by (try simp only [List.map_toArray, List.map_cons, List.map_nil]); first | done | rfl | (simp only [List.length_drop, List.length_take]; rfl)) ?_; (with_reducible refine (insolvencyref33_day.calls a1 true _ A5.out).mono ?_); rintro e w' ⟨rfl, ⟨nd, rfl⟩⟩; refine ⟨_, rfl, ?_⟩; (try (rw [drewN_self w12]; generalize hq_ : World.drewN w12 _ = w12; have n0_ : Aside0 (w12.heap[gb480]? = some (.cells #[.int .i64 a0_0, .int .i64 a0_1, .int .i64 a0_2, .slice A0_3 l0_3.length c0_3, .slice A0_4 l0_4.length c0_4] 30 (0, 0))) := ⟨by rw [← hq_]; exact (by (with_reducible repeat (first | refine blk_drewN ?_ _ | refine blk_drew ?_ | refine blk_alloc ?_ _)); exact BK480.out)⟩; have n1_ : Aside0 (w12.heap[gb481]? = some (.cells #[.int .i64 0, .int .i64 0, .int .i64 0, .slice none 0 0, .slice none 0 0] 30 (0, 0))) := ⟨by rw [← hq_]; exact (by (with_reducible repeat (first | refine blk_drewN ?_ _ | refine blk_drew ?_ | refine blk_alloc ?_ _)); exact BK481.out)⟩; have n2_ : Aside0 (Below w.heap.size w w12) := ⟨by rw [← hq_]; exact (pB HB)⟩; clear BK480 BK481 HB hq_; have BK480 := n0_; have BK481 := n1_; have HB := n2_; clear n0_ n1_ n2_)); obtain ⟨hcz13_0, hcz13_1, hcz13_2, hcz13_3, hcz13_4⟩ := cells5 BK480; obtain ⟨hfz13_0, hfz13_1, hfz13_2, hfz13_3, hfz13_4⟩ := frz5 BK480; obtain ⟨hcz14_0, hcz14_1, hcz14_2, hcz14_3, hcz14_4⟩ := cells5 BK481; obtain ⟨hfz14_0, hfz14_1, hfz14_2, hfz14_3, hfz14_4⟩ := frz5 BK481))
    refine bodyPost_ret (results_ctt rfl _ _ gb481 30 #[.int .i64 0, .int .i64 0, .int .i64 0, .slice none 0 0, .slice none 0 0] (0, 0) _ rfl (by (with_reducible repeat (first | refine blk_drewN ?_ _ | refine blk_drew ?_ | refine blk_alloc ?_ _)); refine blk_put (cs := #[.int .i64 0, .int .i64 0, .int .i64 0, .slice none 0 0, .slice none 0 0]) ?_ 4 _ rfl; (with_reducible repeat (first | refine blk_drewN ?_ _ | refine blk_drew ?_ | refine blk_alloc ?_ _)); refine blk_put (cs := #[.int .i64 0, .int .i64 0, .int .i64 0, .slice none 0 0, .slice none 0 0]) ?_ 3 _ rfl; (with_reducible repeat (first | refine blk_drewN ?_ _ | refine blk_drew ?_ | refine blk_alloc ?_ _)); refine blk_put (cs := #[.int .i64 0, .int .i64 0, .int .i64 0, .slice none 0 0, .slice none 0 0]) ?_ 2 _ rfl; (with_reducible repeat (first | refine blk_drewN ?_ _ | refine blk_drew ?_ | refine blk_alloc ?_ _)); refine blk_put (cs := #[.int .i64 0, .int .i64 0, .int .i64 0, .slice none 0 0, .slice none 0 0]) ?_ 1 _ rfl; (with_reducible repeat (first | refine blk_drewN ?_ _ | refine blk_drew ?_ | refine blk_alloc ?_ _)); refine blk_put (cs := #[.int .i64 0, .int .i64 0, .int .i64 0, .slice none 0 0, .slice none 0 0]) ?_ 0 _ rfl; (with_reducible repeat (first | refine blk_drewN ?_ _ | refine blk_drew ?_ | refine blk_alloc ?_ _)); exact BK481.out) Try.underlying30 rfl (by kernel_rfl)) rfl ?_
    exact ⟨_, _, _, by first | rfl | (simp [errW_none, errW_some] <;> rfl) | (simp [*, errW_none, errW_some] <;> rfl), by first | exact Kd.R_nil _ _ _ _ _ | exact Kd.N_nil _ _ _ _ _ | exact Kd.V_nil _ _ _ _ _ | exact Kd.Q_nil _ _ _ _ _ | exact Kd.S_nil _ _ _ _ _, by first | exact Kd.R_nil _ _ _ _ _ | exact Kd.N_nil _ _ _ _ _ | exact Kd.V_nil _ _ _ _ _ | exact Kd.Q_nil _ _ _ _ _ | exact Kd.S_nil _ _ _ _ _, by first | exact Kd.R_nil _ _ _ _ _ | exact Kd.N_nil _ _ _ _ _ | exact Kd.V_nil _ _ _ _ _ | exact Kd.Q_nil _ _ _ _ _ | exact Kd.S_nil _ _ _ _ _, pB HB⟩
   ·rw [if_neg c7] at H
    have c7b0 : decide (a1 < a0_0) = false := decide_eq_false c7
    clear c7
    replace H := Option.bind_eq_some_iff.mp H
    obtain ⟨⟨t484, t485, t486, t487, t490, t493⟩, A150, H⟩ := H
    replace H : (some (t484, t485, t486, t487, t490, t493, 0)) = some (r1, r2, r3, r4, r5, r6, r7) := H
    have A15 := Aside0.mk A150
    clear A150
    simp only [Option.some.injEq, Prod.mk.injEq] at H
    obtain ⟨rfl, rfl, rfl, rfl, rfl, rfl, rfl⟩ := H
    go_enter Try.func27, Try.ntmps27
    go_wp2_with (first | ((with_reducible refine gate_dst (N := 2) rfl ?_); refine boxE (N := 2) #[.int .i64 a0_0, .int .i64 a0_1, .int .i64 a0_2, .slice A0_3 l0_3.length c0_3, .slice A0_4 l0_4.length c0_4] 30 ?_; intro gb480 hg w16 hbox hb; have BK480 := Aside0.mk (hbox); have GW480 := gS HB hg; have GE480 := gS HB hg; replace HB := Aside0.mk (below_step (pB HB) hb); clear hb hbox hg) | ((with_reducible refine gate_dst (N := 4) rfl ?_); refine boxE (N := 4) #[.int .i64 0, .int .i64 0, .int .i64 0, .slice none 0 0, .slice none 0 0] 30 ?_; intro gb481 hg w17 hbox hb; have BK481 := Aside0.mk (hbox); have GW481 := gS HB hg; have GE481 := gS HB hg; have NB480_481 := nL BK480 hg; have NB481_480 := nG BK480 hg; replace BK480 := bB BK480 hb; replace HB := Aside0.mk (below_step (pB HB) hb); clear hb hbox hg; have hnb18 := NB480_481.out; have hnc18 := NB481_480.out; obtain ⟨hcz19_0, hcz19_1, hcz19_2, hcz19_3, hcz19_4⟩ := cells5 BK480; obtain ⟨hfz19_0, hfz19_1, hfz19_2, hfz19_3, hfz19_4⟩ := frz5 BK480) | ((with_reducible refine gate_callee (f := 24) rfl ?_); refine goesL_ (some 11) rfl rfl Try.func24 (by kernel_rfl) rfl #[.agg #[.int .i64 a0_0, .int .i64 a0_1, .int .i64 a0_2, .slice A0_3 l0_3.length c0_3, .slice A0_4 l0_4.length c0_4]] rfl (by (try simp only [List.map_toArray, List.map_cons, List.map_nil]); first | done | rfl | (simp only [List.length_drop, List.length_take]; rfl)) ?_; (with_reducible refine (insolvencyref33_CheckDocket.calls k a0_0 a0_1 a0_2 _ _ l0_3 _ _ l0_4 t482 _ ?side1 ?side2 ?side3 ?side4 A3.out).mono ?_); (case side1 => exact cB HR0_3 HB); (case side2 => exact HC0_3.out); (case side3 => exact cB HR0_4 HB); (case side4 => exact HC0_4.out); rintro e w20 ⟨rfl, hb⟩; refine ⟨_, rfl, ?_⟩; replace BK480 := bB BK480 hb; replace BK481 := bB BK481 hb; replace HB := Aside0.mk (below_step (pB HB) hb); (try clear hb)) | ((with_reducible refine gate_callee (f := 44) rfl ?_); refine goesL_ (some 17) rfl rfl Try.func44 (by kernel_rfl) rfl #[.int .i64 a1] rfl (by (try simp only [List.map_toArray, List.map_cons, List.map_nil]); first | done | rfl | (simp only [List.length_drop, List.length_take]; rfl)) ?_; (with_reducible refine (insolvencyref33_day.calls a1 true _ A5.out).mono ?_); rintro e w' ⟨rfl, ⟨nd, rfl⟩⟩; refine ⟨_, rfl, ?_⟩; (try (rw [drewN_self w20]; generalize hq_ : World.drewN w20 _ = w20; have n0_ : Aside0 (w20.heap[gb480]? = some (.cells #[.int .i64 a0_0, .int .i64 a0_1, .int .i64 a0_2, .slice A0_3 l0_3.length c0_3, .slice A0_4 l0_4.length c0_4] 30 (0, 0))) := ⟨by rw [← hq_]; exact (by (with_reducible repeat (first | refine blk_drewN ?_ _ | refine blk_drew ?_ | refine blk_alloc ?_ _)); exact BK480.out)⟩; have n1_ : Aside0 (w20.heap[gb481]? = some (.cells #[.int .i64 0, .int .i64 0, .int .i64 0, .slice none 0 0, .slice none 0 0] 30 (0, 0))) := ⟨by rw [← hq_]; exact (by (with_reducible repeat (first | refine blk_drewN ?_ _ | refine blk_drew ?_ | refine blk_alloc ?_ _)); exact BK481.out)⟩; have n2_ : Aside0 (Below w.heap.size w w20) := ⟨by rw [← hq_]; exact (pB HB)⟩; clear BK480 BK481 HB hq_; have BK480 := n0_; have BK481 := n1_; have HB := n2_; clear n0_ n1_ n2_)); obtain ⟨hcz21_0, hcz21_1, hcz21_2, hcz21_3, hcz21_4⟩ := cells5 BK480; obtain ⟨hfz21_0, hfz21_1, hfz21_2, hfz21_3, hfz21_4⟩ := frz5 BK480) | ((with_reducible refine gate_callee (f := 45) rfl ?_); refine goesL_ (some 28) rfl rfl Try.func45 (by kernel_rfl) rfl #[.agg #[.int .i64 a0_0, .int .i64 a0_1, .int .i64 a0_2, .slice A0_3 l0_3.length c0_3, .slice A0_4 l0_4.length c0_4], .int .i64 a1] rfl (by (try simp only [List.map_toArray, List.map_cons, List.map_nil]); first | done | rfl | (simp only [List.length_drop, List.length_take]; rfl)) ?_; (with_reducible refine (insolvencyref33_lapsed.calls k a0_0 a0_1 a0_2 _ _ l0_3 _ _ l0_4 a1 t484 t485 t486 t487 t490 t493 _ ?side1 ?side2 ?side3 ?side4 A15.out).mono ?_); (case side1 => exact cB HR0_3 HB); (case side2 => exact HC0_3.out); (case side3 => exact cB HR0_4 HB); (case side4 => exact HC0_4.out); rintro e w22 ⟨v488, v491, v494, rfl, ho0, ho1, ho2, hb⟩; refine ⟨_, rfl, ?_⟩; have HO489 := Aside0.mk (Kd.R_lower ho0 (below_size (pB HB))); have HO492 := Aside0.mk (Kd.R_lower ho1 (below_size (pB HB))); have HO495 := Aside0.mk (Kd.R_lower ho2 (below_size (pB HB))); replace BK480 := bB BK480 hb; replace BK481 := bB BK481 hb; replace HB := Aside0.mk (below_step (pB HB) hb); (try clear hb); (try clear ho0); (try clear ho1); (try clear ho2)) | ((with_reducible refine gate_dst (N := 8) rfl ?_); refine boxE (N := 8) #[.int .i64 0, .int .i64 0, .int .i64 0, .slice none 0 0, .slice none 0 0] 30 ?_; intro gb496 hg w23 hbox hb; have BK496 := Aside0.mk (hbox); have GW496 := gS HB hg; have GE496 := gS HB hg; have NB480_496 := nL BK480 hg; have NB496_480 := nG BK480 hg; have NB481_496 := nL BK481 hg; have NB496_481 := nG BK481 hg; replace HO489 := rB HO489 hb; replace HO492 := rB HO492 hb; replace HO495 := rB HO495 hb; replace BK480 := bB BK480 hb; replace BK481 := bB BK481 hb; replace HB := Aside0.mk (below_step (pB HB) hb); clear hb hbox hg; have hnb24 := NB496_480.out; have hnc24 := NB480_496.out; have hnb25 := NB496_481.out; have hnc25 := NB481_496.out; obtain ⟨hcz26_0, hcz26_1, hcz26_2, hcz26_3, hcz26_4⟩ := cells5 BK496; obtain ⟨hfz26_0, hfz26_1, hfz26_2, hfz26_3, hfz26_4⟩ := frz5 BK496; obtain ⟨Ao27, co27, eo27⟩ := Kd.R_slice HO489.out; subst eo27; obtain ⟨Ao28, co28, eo28⟩ := Kd.R_slice HO492.out; subst eo28; obtain ⟨hcz29_0, hcz29_1, hcz29_2, hcz29_3, hcz29_4⟩ := cells5 BK481; obtain ⟨hfz29_0, hfz29_1, hfz29_2, hfz29_3, hfz29_4⟩ := frz5 BK481))
    refine bodyPost_ret (results_ctt rfl _ _ gb481 30 #[.int .i64 t484, .int .i64 t485, .int .i64 t486, .slice Ao27 t487.length co27, .slice Ao28 t490.length co28] (0, 0) _ rfl (by (with_reducible repeat (first | refine blk_drewN ?_ _ | refine blk_drew ?_ | refine blk_alloc ?_ _)); refine blk_put (cs := #[.int .i64 t484, .int .i64 t485, .int .i64 t486, .slice Ao27 t487.length co27, .slice none 0 0]) ?_ 4 _ rfl; (with_reducible repeat (first | refine blk_drewN ?_ _ | refine blk_drew ?_ | refine blk_alloc ?_ _)); refine blk_put (cs := #[.int .i64 t484, .int .i64 t485, .int .i64 t486, .slice none 0 0, .slice none 0 0]) ?_ 3 _ rfl; (with_reducible repeat (first | refine blk_drewN ?_ _ | refine blk_drew ?_ | refine blk_alloc ?_ _)); refine blk_put (cs := #[.int .i64 t484, .int .i64 t485, .int .i64 0, .slice none 0 0, .slice none 0 0]) ?_ 2 _ rfl; (with_reducible repeat (first | refine blk_drewN ?_ _ | refine blk_drew ?_ | refine blk_alloc ?_ _)); refine blk_put (cs := #[.int .i64 t484, .int .i64 0, .int .i64 0, .slice none 0 0, .slice none 0 0]) ?_ 1 _ rfl; (with_reducible repeat (first | refine blk_drewN ?_ _ | refine blk_drew ?_ | refine blk_alloc ?_ _)); refine blk_put (cs := #[.int .i64 0, .int .i64 0, .int .i64 0, .slice none 0 0, .slice none 0 0]) ?_ 0 _ rfl; (with_reducible repeat (first | refine blk_drewN ?_ _ | refine blk_drew ?_ | refine blk_alloc ?_ _)); refine blk_far ?_ NB481_496.out _; (with_reducible repeat (first | refine blk_drewN ?_ _ | refine blk_drew ?_ | refine blk_alloc ?_ _)); refine blk_far ?_ NB481_496.out _; (with_reducible repeat (first | refine blk_drewN ?_ _ | refine blk_drew ?_ | refine blk_alloc ?_ _)); refine blk_far ?_ NB481_496.out _; (with_reducible repeat (first | refine blk_drewN ?_ _ | refine blk_drew ?_ | refine blk_alloc ?_ _)); refine blk_far ?_ NB481_496.out _; (with_reducible repeat (first | refine blk_drewN ?_ _ | refine blk_drew ?_ | refine blk_alloc ?_ _)); refine blk_far ?_ NB481_496.out _; (with_reducible repeat (first | refine blk_drewN ?_ _ | refine blk_drew ?_ | refine blk_alloc ?_ _)); exact BK481.out) Try.underlying30 rfl (by kernel_rfl)) rfl ?_
    exact ⟨_, _, _, by first | rfl | (simp [errW_none, errW_some] <;> rfl) | (simp [*, errW_none, errW_some] <;> rfl), by (with_reducible repeat (first | apply Kd.R_alloc | apply Kd.R_drewN | apply Kd.R_drew)); exact Kd.R_mono (Kd.R_far (p := ⟨gb481, 4, none⟩) (Kd.R_far (p := ⟨gb481, 3, none⟩) (Kd.R_far (p := ⟨gb481, 2, none⟩) (Kd.R_far (p := ⟨gb481, 1, none⟩) (Kd.R_far (p := ⟨gb481, 0, none⟩) (Kd.R_far (p := ⟨gb496, 4, none⟩) (Kd.R_far (p := ⟨gb496, 3, none⟩) (Kd.R_far (p := ⟨gb496, 2, none⟩) (Kd.R_far (p := ⟨gb496, 1, none⟩) (Kd.R_far (p := ⟨gb496, 0, none⟩) (Kd.R_types (Kd.R_types HO489.out BK496.out (by decide)) BK481.out (by decide)) (fun _ hk => hk.1.2) (.int .i64 t484)) (fun _ hk => hk.1.2) (.int .i64 t485)) (fun _ hk => hk.1.2) (.int .i64 t486)) (fun _ hk => hk.1.2) (.slice Ao27 t487.length co27)) (fun _ hk => hk.1.2) (.slice Ao28 t490.length co28)) (fun _ hk => hk.2) (.int .i64 t484)) (fun _ hk => hk.2) (.int .i64 t485)) (fun _ hk => hk.2) (.int .i64 t486)) (fun _ hk => hk.2) (.slice Ao27 t487.length co27)) (fun _ hk => hk.2) (.slice Ao28 t490.length co28)) (fun _ hk => trivial), by (with_reducible repeat (first | apply Kd.R_alloc | apply Kd.R_drewN | apply Kd.R_drew)); exact Kd.R_mono (Kd.R_far (p := ⟨gb481, 4, none⟩) (Kd.R_far (p := ⟨gb481, 3, none⟩) (Kd.R_far (p := ⟨gb481, 2, none⟩) (Kd.R_far (p := ⟨gb481, 1, none⟩) (Kd.R_far (p := ⟨gb481, 0, none⟩) (Kd.R_far (p := ⟨gb496, 4, none⟩) (Kd.R_far (p := ⟨gb496, 3, none⟩) (Kd.R_far (p := ⟨gb496, 2, none⟩) (Kd.R_far (p := ⟨gb496, 1, none⟩) (Kd.R_far (p := ⟨gb496, 0, none⟩) (Kd.R_types (Kd.R_types HO492.out BK496.out (by decide)) BK481.out (by decide)) (fun _ hk => hk.1.2) (.int .i64 t484)) (fun _ hk => hk.1.2) (.int .i64 t485)) (fun _ hk => hk.1.2) (.int .i64 t486)) (fun _ hk => hk.1.2) (.slice Ao27 t487.length co27)) (fun _ hk => hk.1.2) (.slice Ao28 t490.length co28)) (fun _ hk => hk.2) (.int .i64 t484)) (fun _ hk => hk.2) (.int .i64 t485)) (fun _ hk => hk.2) (.int .i64 t486)) (fun _ hk => hk.2) (.slice Ao27 t487.length co27)) (fun _ hk => hk.2) (.slice Ao28 t490.length co28)) (fun _ hk => trivial), by (with_reducible repeat (first | apply Kd.R_alloc | apply Kd.R_drewN | apply Kd.R_drew)); exact Kd.R_mono (Kd.R_far (p := ⟨gb481, 4, none⟩) (Kd.R_far (p := ⟨gb481, 3, none⟩) (Kd.R_far (p := ⟨gb481, 2, none⟩) (Kd.R_far (p := ⟨gb481, 1, none⟩) (Kd.R_far (p := ⟨gb481, 0, none⟩) (Kd.R_far (p := ⟨gb496, 4, none⟩) (Kd.R_far (p := ⟨gb496, 3, none⟩) (Kd.R_far (p := ⟨gb496, 2, none⟩) (Kd.R_far (p := ⟨gb496, 1, none⟩) (Kd.R_far (p := ⟨gb496, 0, none⟩) (Kd.R_types (Kd.R_types HO495.out BK496.out (by decide)) BK481.out (by decide)) (fun _ hk => hk.1.2) (.int .i64 t484)) (fun _ hk => hk.1.2) (.int .i64 t485)) (fun _ hk => hk.1.2) (.int .i64 t486)) (fun _ hk => hk.1.2) (.slice Ao27 t487.length co27)) (fun _ hk => hk.1.2) (.slice Ao28 t490.length co28)) (fun _ hk => hk.2) (.int .i64 t484)) (fun _ hk => hk.2) (.int .i64 t485)) (fun _ hk => hk.2) (.int .i64 t486)) (fun _ hk => hk.2) (.slice Ao27 t487.length co27)) (fun _ hk => hk.2) (.slice Ao28 t490.length co28)) (fun _ hk => trivial), pB HB⟩
  ·replace c6 := Bool.eq_false_iff.mpr c6
   subst c6
   have H1 : (some (0, 0, 0, ([] : List Int), ([] : List (S50)), ([] : List (S52)), 1)) = some (r1, r2, r3, r4, r5, r6, r7) := by rw [if_neg (show ¬ (false = true) by decide)] at H; exact H
   clear H
   have H := H1
   clear H1
   simp only [Option.some.injEq, Prod.mk.injEq] at H
   obtain ⟨rfl, rfl, rfl, rfl, rfl, rfl, rfl⟩ := H
   go_enter Try.func27, Try.ntmps27
   go_wp2_with (first | ((with_reducible refine gate_dst (N := 2) rfl ?_); refine boxE (N := 2) #[.int .i64 a0_0, .int .i64 a0_1, .int .i64 a0_2, .slice A0_3 l0_3.length c0_3, .slice A0_4 l0_4.length c0_4] 30 ?_; intro gb480 hg w30 hbox hb; have BK480 := Aside0.mk (hbox); have GW480 := gS HB hg; have GE480 := gS HB hg; replace HB := Aside0.mk (below_step (pB HB) hb); clear hb hbox hg) | ((with_reducible refine gate_dst (N := 4) rfl ?_); refine boxE (N := 4) #[.int .i64 0, .int .i64 0, .int .i64 0, .slice none 0 0, .slice none 0 0] 30 ?_; intro gb481 hg w31 hbox hb; have BK481 := Aside0.mk (hbox); have GW481 := gS HB hg; have GE481 := gS HB hg; have NB480_481 := nL BK480 hg; have NB481_480 := nG BK480 hg; replace BK480 := bB BK480 hb; replace HB := Aside0.mk (below_step (pB HB) hb); clear hb hbox hg; have hnb32 := NB480_481.out; have hnc32 := NB481_480.out; obtain ⟨hcz33_0, hcz33_1, hcz33_2, hcz33_3, hcz33_4⟩ := cells5 BK480; obtain ⟨hfz33_0, hfz33_1, hfz33_2, hfz33_3, hfz33_4⟩ := frz5 BK480) | ((with_reducible refine gate_callee (f := 24) rfl ?_); refine goesL_ (some 11) rfl rfl Try.func24 (by kernel_rfl) rfl #[.agg #[.int .i64 a0_0, .int .i64 a0_1, .int .i64 a0_2, .slice A0_3 l0_3.length c0_3, .slice A0_4 l0_4.length c0_4]] rfl (by (try simp only [List.map_toArray, List.map_cons, List.map_nil]); first | done | rfl | (simp only [List.length_drop, List.length_take]; rfl)) ?_; (with_reducible refine (insolvencyref33_CheckDocket.calls k a0_0 a0_1 a0_2 _ _ l0_3 _ _ l0_4 t482 _ ?side1 ?side2 ?side3 ?side4 A3.out).mono ?_); (case side1 => exact cB HR0_3 HB); (case side2 => exact HC0_3.out); (case side3 => exact cB HR0_4 HB); (case side4 => exact HC0_4.out); rintro e w34 ⟨rfl, hb⟩; refine ⟨_, rfl, ?_⟩; replace BK480 := bB BK480 hb; replace BK481 := bB BK481 hb; replace HB := Aside0.mk (below_step (pB HB) hb); (try clear hb)) | ((with_reducible refine gate_callee (f := 44) rfl ?_); refine goesL_ (some 17) rfl rfl Try.func44 (by kernel_rfl) rfl #[.int .i64 a1] rfl (by (try simp only [List.map_toArray, List.map_cons, List.map_nil]); first | done | rfl | (simp only [List.length_drop, List.length_take]; rfl)) ?_; (with_reducible refine (insolvencyref33_day.calls a1 false _ A5.out).mono ?_); rintro e w' ⟨rfl, ⟨nd, rfl⟩⟩; refine ⟨_, rfl, ?_⟩; (try (rw [drewN_self w34]; generalize hq_ : World.drewN w34 _ = w34; have n0_ : Aside0 (w34.heap[gb480]? = some (.cells #[.int .i64 a0_0, .int .i64 a0_1, .int .i64 a0_2, .slice A0_3 l0_3.length c0_3, .slice A0_4 l0_4.length c0_4] 30 (0, 0))) := ⟨by rw [← hq_]; exact (by (with_reducible repeat (first | refine blk_drewN ?_ _ | refine blk_drew ?_ | refine blk_alloc ?_ _)); exact BK480.out)⟩; have n1_ : Aside0 (w34.heap[gb481]? = some (.cells #[.int .i64 0, .int .i64 0, .int .i64 0, .slice none 0 0, .slice none 0 0] 30 (0, 0))) := ⟨by rw [← hq_]; exact (by (with_reducible repeat (first | refine blk_drewN ?_ _ | refine blk_drew ?_ | refine blk_alloc ?_ _)); exact BK481.out)⟩; have n2_ : Aside0 (Below w.heap.size w w34) := ⟨by rw [← hq_]; exact (pB HB)⟩; clear BK480 BK481 HB hq_; have BK480 := n0_; have BK481 := n1_; have HB := n2_; clear n0_ n1_ n2_)); obtain ⟨hcz35_0, hcz35_1, hcz35_2, hcz35_3, hcz35_4⟩ := cells5 BK481; obtain ⟨hfz35_0, hfz35_1, hfz35_2, hfz35_3, hfz35_4⟩ := frz5 BK481))
   refine bodyPost_ret (results_ctt rfl _ _ gb481 30 #[.int .i64 0, .int .i64 0, .int .i64 0, .slice none 0 0, .slice none 0 0] (0, 0) _ rfl (by (with_reducible repeat (first | refine blk_drewN ?_ _ | refine blk_drew ?_ | refine blk_alloc ?_ _)); refine blk_put (cs := #[.int .i64 0, .int .i64 0, .int .i64 0, .slice none 0 0, .slice none 0 0]) ?_ 4 _ rfl; (with_reducible repeat (first | refine blk_drewN ?_ _ | refine blk_drew ?_ | refine blk_alloc ?_ _)); refine blk_put (cs := #[.int .i64 0, .int .i64 0, .int .i64 0, .slice none 0 0, .slice none 0 0]) ?_ 3 _ rfl; (with_reducible repeat (first | refine blk_drewN ?_ _ | refine blk_drew ?_ | refine blk_alloc ?_ _)); refine blk_put (cs := #[.int .i64 0, .int .i64 0, .int .i64 0, .slice none 0 0, .slice none 0 0]) ?_ 2 _ rfl; (with_reducible repeat (first | refine blk_drewN ?_ _ | refine blk_drew ?_ | refine blk_alloc ?_ _)); refine blk_put (cs := #[.int .i64 0, .int .i64 0, .int .i64 0, .slice none 0 0, .slice none 0 0]) ?_ 1 _ rfl; (with_reducible repeat (first | refine blk_drewN ?_ _ | refine blk_drew ?_ | refine blk_alloc ?_ _)); refine blk_put (cs := #[.int .i64 0, .int .i64 0, .int .i64 0, .slice none 0 0, .slice none 0 0]) ?_ 0 _ rfl; (with_reducible repeat (first | refine blk_drewN ?_ _ | refine blk_drew ?_ | refine blk_alloc ?_ _)); exact BK481.out) Try.underlying30 rfl (by kernel_rfl)) rfl ?_
   exact ⟨_, _, _, by first | rfl | (simp [errW_none, errW_some] <;> rfl) | (simp [*, errW_none, errW_some] <;> rfl), by first | exact Kd.R_nil _ _ _ _ _ | exact Kd.N_nil _ _ _ _ _ | exact Kd.V_nil _ _ _ _ _ | exact Kd.Q_nil _ _ _ _ _ | exact Kd.S_nil _ _ _ _ _, by first | exact Kd.R_nil _ _ _ _ _ | exact Kd.N_nil _ _ _ _ _ | exact Kd.V_nil _ _ _ _ _ | exact Kd.Q_nil _ _ _ _ _ | exact Kd.S_nil _ _ _ _ _, by first | exact Kd.R_nil _ _ _ _ _ | exact Kd.N_nil _ _ _ _ _ | exact Kd.V_nil _ _ _ _ _ | exact Kd.Q_nil _ _ _ _ _ | exact Kd.S_nil _ _ _ _ _, pB HB⟩
 ·rw [if_neg c4] at H
  have c4b0 : (t482 == 0) = false := beq_eq_false_iff_ne.mpr c4
  have c4b1 : (t482 != 0) = true := bne_iff_ne.mpr c4
  simp only [Option.some.injEq, Prod.mk.injEq] at H
  obtain ⟨rfl, rfl, rfl, rfl, rfl, rfl, rfl⟩ := H
  go_enter Try.func27, Try.ntmps27
  go_wp2_with (first | ((with_reducible refine gate_dst (N := 2) rfl ?_); refine boxE (N := 2) #[.int .i64 a0_0, .int .i64 a0_1, .int .i64 a0_2, .slice A0_3 l0_3.length c0_3, .slice A0_4 l0_4.length c0_4] 30 ?_; intro gb480 hg w36 hbox hb; have BK480 := Aside0.mk (hbox); have GW480 := gS HB hg; have GE480 := gS HB hg; replace HB := Aside0.mk (below_step (pB HB) hb); clear hb hbox hg) | ((with_reducible refine gate_dst (N := 4) rfl ?_); refine boxE (N := 4) #[.int .i64 0, .int .i64 0, .int .i64 0, .slice none 0 0, .slice none 0 0] 30 ?_; intro gb481 hg w37 hbox hb; have BK481 := Aside0.mk (hbox); have GW481 := gS HB hg; have GE481 := gS HB hg; have NB480_481 := nL BK480 hg; have NB481_480 := nG BK480 hg; replace BK480 := bB BK480 hb; replace HB := Aside0.mk (below_step (pB HB) hb); clear hb hbox hg; have hnb38 := NB480_481.out; have hnc38 := NB481_480.out; obtain ⟨hcz39_0, hcz39_1, hcz39_2, hcz39_3, hcz39_4⟩ := cells5 BK480; obtain ⟨hfz39_0, hfz39_1, hfz39_2, hfz39_3, hfz39_4⟩ := frz5 BK480) | ((with_reducible refine gate_callee (f := 24) rfl ?_); refine goesL_ (some 11) rfl rfl Try.func24 (by kernel_rfl) rfl #[.agg #[.int .i64 a0_0, .int .i64 a0_1, .int .i64 a0_2, .slice A0_3 l0_3.length c0_3, .slice A0_4 l0_4.length c0_4]] rfl (by (try simp only [List.map_toArray, List.map_cons, List.map_nil]); first | done | rfl | (simp only [List.length_drop, List.length_take]; rfl)) ?_; (with_reducible refine (insolvencyref33_CheckDocket.calls k a0_0 a0_1 a0_2 _ _ l0_3 _ _ l0_4 t482 _ ?side1 ?side2 ?side3 ?side4 A3.out).mono ?_); (case side1 => exact cB HR0_3 HB); (case side2 => exact HC0_3.out); (case side3 => exact cB HR0_4 HB); (case side4 => exact HC0_4.out); rintro e w40 ⟨rfl, hb⟩; refine ⟨_, rfl, ?_⟩; replace BK480 := bB BK480 hb; replace BK481 := bB BK481 hb; replace HB := Aside0.mk (below_step (pB HB) hb); (try clear hb); obtain ⟨hcz41_0, hcz41_1, hcz41_2, hcz41_3, hcz41_4⟩ := cells5 BK481; obtain ⟨hfz41_0, hfz41_1, hfz41_2, hfz41_3, hfz41_4⟩ := frz5 BK481))
  refine bodyPost_ret (results_ctt rfl _ _ gb481 30 #[.int .i64 0, .int .i64 0, .int .i64 0, .slice none 0 0, .slice none 0 0] (0, 0) _ rfl (by (with_reducible repeat (first | refine blk_drewN ?_ _ | refine blk_drew ?_ | refine blk_alloc ?_ _)); refine blk_put (cs := #[.int .i64 0, .int .i64 0, .int .i64 0, .slice none 0 0, .slice none 0 0]) ?_ 4 _ rfl; (with_reducible repeat (first | refine blk_drewN ?_ _ | refine blk_drew ?_ | refine blk_alloc ?_ _)); refine blk_put (cs := #[.int .i64 0, .int .i64 0, .int .i64 0, .slice none 0 0, .slice none 0 0]) ?_ 3 _ rfl; (with_reducible repeat (first | refine blk_drewN ?_ _ | refine blk_drew ?_ | refine blk_alloc ?_ _)); refine blk_put (cs := #[.int .i64 0, .int .i64 0, .int .i64 0, .slice none 0 0, .slice none 0 0]) ?_ 2 _ rfl; (with_reducible repeat (first | refine blk_drewN ?_ _ | refine blk_drew ?_ | refine blk_alloc ?_ _)); refine blk_put (cs := #[.int .i64 0, .int .i64 0, .int .i64 0, .slice none 0 0, .slice none 0 0]) ?_ 1 _ rfl; (with_reducible repeat (first | refine blk_drewN ?_ _ | refine blk_drew ?_ | refine blk_alloc ?_ _)); refine blk_put (cs := #[.int .i64 0, .int .i64 0, .int .i64 0, .slice none 0 0, .slice none 0 0]) ?_ 0 _ rfl; (with_reducible repeat (first | refine blk_drewN ?_ _ | refine blk_drew ?_ | refine blk_alloc ?_ _)); exact BK481.out) Try.underlying30 rfl (by kernel_rfl)) rfl ?_
  exact ⟨_, _, _, by first | rfl | (simp [errW_none, errW_some] <;> rfl) | (simp [*, errW_none, errW_some] <;> rfl), by first | exact Kd.R_nil _ _ _ _ _ | exact Kd.N_nil _ _ _ _ _ | exact Kd.V_nil _ _ _ _ _ | exact Kd.Q_nil _ _ _ _ _ | exact Kd.S_nil _ _ _ _ _, by first | exact Kd.R_nil _ _ _ _ _ | exact Kd.N_nil _ _ _ _ _ | exact Kd.V_nil _ _ _ _ _ | exact Kd.Q_nil _ _ _ _ _ | exact Kd.S_nil _ _ _ _ _, by first | exact Kd.R_nil _ _ _ _ _ | exact Kd.N_nil _ _ _ _ _ | exact Kd.V_nil _ _ _ _ _ | exact Kd.Q_nil _ _ _ _ _ | exact Kd.S_nil _ _ _ _ _, pB HB⟩

end Go.Proofs.Ytpfiecjacpbhkaa.D

/- What the Go functions named below come to, each told as_ a Lean function ('.f'), with the proof ('.calls'): no condition beyond those that each theorem states. Written by a program of this session's over the translation. -/
namespace Go.Proofs.Ytpfiecjacpbhkaa.F
open Go.RowKit Go.Proofs.YtpfiecjacpbhkaaW.PrintWords Go.Proofs.YtpfiecjacpbhkaaW.PrintLast Go.Proofs.YtpfiecjacpbhkaaW.PrintMore
attribute [local go_sem] max2_int min2_int max_two min_two max_three min_three max_four min_four   -- for this text's walks alone
set_option linter.unusedVariables false
set_option linter.unusedSimpArgs false

/-! ### insolvencyref1_AddDays: function 61 -/
mutual
def insolvencyref1_AddDays.j0 : Nat → Int → Int → List Int → Bool → Option (Int × Int)
  | 0, _, _, _, _ => none
  | k + 1, x0, x1, x2, x22 => if x22 = true then (some (0, 1)) else (if x1 > 0 then (insolvencyref1_AddDays.j1 k x1 x2 (wrap64 (x0 + 1))) else (insolvencyref1_AddDays.j1 k x1 x2 x0))
def insolvencyref1_AddDays.j1 : Nat → Int → List Int → Int → Option (Int × Int)
  | 0, _, _, _ => none
  | k + 1, x1, x2, x8 => insolvencyref1_AddDays.l0 k x1 x2 x8
def insolvencyref1_AddDays.l0 : Nat → Int → List Int → Int → Option (Int × Int)
  | 0, _, _, _ => none
  | k + 1, x1, x2, x8 => if x8 ≤ 1048576 then ((insolvencyref1_IsBusiness.f k x8 x2).bind fun t126 => (if t126 = true then (if x1 ≤ 1 then (some (x8, 0)) else (insolvencyref1_AddDays.l0 k (wrap64 (x1 - 1)) x2 (wrap64 (x8 + 1)))) else (insolvencyref1_AddDays.l0 k x1 x2 (wrap64 (x8 + 1))))) else (some (0, 1))
end
def insolvencyref1_AddDays.f (k : Nat) (a0 : Int) (a1 : Int) (l2 : List Int) : Option (Int × Int) := if (l2.length : Int) > 1000 then (some (0, 2)) else ((insolvencyref1_IsDay.f a0).bind fun t125 => (if t125 = true then (if a1 < 0 then (insolvencyref1_AddDays.j0 k a0 a1 l2 true) else (insolvencyref1_AddDays.j0 k a0 a1 l2 (decide (a1 > 1048576)))) else (insolvencyref1_AddDays.j0 k a0 a1 l2 true)))
theorem insolvencyref1_AddDays.mono_l : ∀ k, (∀ y0 y1 y2 y3, LeO (insolvencyref1_AddDays.j0 k y0 y1 y2 y3) (insolvencyref1_AddDays.j0 (k + 1) y0 y1 y2 y3)) ∧ (∀ y0 y1 y2, LeO (insolvencyref1_AddDays.j1 k y0 y1 y2) (insolvencyref1_AddDays.j1 (k + 1) y0 y1 y2)) ∧ (∀ y0 y1 y2, LeO (insolvencyref1_AddDays.l0 k y0 y1 y2) (insolvencyref1_AddDays.l0 (k + 1) y0 y1 y2))
  | 0 => ⟨fun _ _ _ _ r h => by simp [insolvencyref1_AddDays.j0] at h, fun _ _ _ r h => by simp [insolvencyref1_AddDays.j1] at h, fun _ _ _ r h => by simp [insolvencyref1_AddDays.l0] at h⟩
  | k + 1 => by
    obtain ⟨ih0, ih1, ih2⟩ := insolvencyref1_AddDays.mono_l k
    refine ⟨?_, ?_, ?_⟩
    · intro y0 y1 y2 y3
      unfold insolvencyref1_AddDays.j0
      repeat' first
      | (with_reducible exact ih0 _ _ _ _)
      | (with_reducible exact ih1 _ _ _)
      | (with_reducible exact ih2 _ _ _)
      | (with_reducible exact insolvencyref1_IsBusiness.mono _ _ _)
      | (with_reducible exact LeO.refl _)
      | (with_reducible exact LeO.none _)
      | (with_reducible refine LeO.ite ?_ ?_)
      | (with_reducible refine LeO.bind ?_ (fun _ => ?_))
      | exact ih0 _ _ _ _
      | exact ih1 _ _ _
      | exact ih2 _ _ _
      | exact insolvencyref1_IsBusiness.mono _ _ _
      | exact LeO.none _
      | refine LeO.ite ?_ ?_
      | refine LeO.bind ?_ (fun _ => ?_)
    · intro y0 y1 y2
      unfold insolvencyref1_AddDays.j1
      repeat' first
      | (with_reducible exact ih0 _ _ _ _)
      | (with_reducible exact ih1 _ _ _)
      | (with_reducible exact ih2 _ _ _)
      | (with_reducible exact insolvencyref1_IsBusiness.mono _ _ _)
      | (with_reducible exact LeO.refl _)
      | (with_reducible exact LeO.none _)
      | (with_reducible refine LeO.ite ?_ ?_)
      | (with_reducible refine LeO.bind ?_ (fun _ => ?_))
      | exact ih0 _ _ _ _
      | exact ih1 _ _ _
      | exact ih2 _ _ _
      | exact insolvencyref1_IsBusiness.mono _ _ _
      | exact LeO.none _
      | refine LeO.ite ?_ ?_
      | refine LeO.bind ?_ (fun _ => ?_)
    · intro y0 y1 y2
      unfold insolvencyref1_AddDays.l0
      repeat' first
      | (with_reducible exact ih0 _ _ _ _)
      | (with_reducible exact ih1 _ _ _)
      | (with_reducible exact ih2 _ _ _)
      | (with_reducible exact insolvencyref1_IsBusiness.mono _ _ _)
      | (with_reducible exact LeO.refl _)
      | (with_reducible exact LeO.none _)
      | (with_reducible refine LeO.ite ?_ ?_)
      | (with_reducible refine LeO.bind ?_ (fun _ => ?_))
      | exact ih0 _ _ _ _
      | exact ih1 _ _ _
      | exact ih2 _ _ _
      | exact insolvencyref1_IsBusiness.mono _ _ _
      | exact LeO.none _
      | refine LeO.ite ?_ ?_
      | refine LeO.bind ?_ (fun _ => ?_)
theorem insolvencyref1_AddDays.mono : ∀ a0 a1 a2 k, LeO (insolvencyref1_AddDays.f k a0 a1 a2) (insolvencyref1_AddDays.f (k + 1) a0 a1 a2) := by
  intro a0 a1 a2 k
  obtain ⟨ih0, ih1, ih2⟩ := insolvencyref1_AddDays.mono_l k
  unfold insolvencyref1_AddDays.f
  repeat' first
      | (with_reducible exact ih0 _ _ _ _)
      | (with_reducible exact ih1 _ _ _)
      | (with_reducible exact ih2 _ _ _)
      | (with_reducible exact insolvencyref1_IsBusiness.mono _ _ _)
      | (with_reducible exact LeO.refl _)
      | (with_reducible exact LeO.none _)
      | (with_reducible refine LeO.ite ?_ ?_)
      | (with_reducible refine LeO.bind ?_ (fun _ => ?_))
      | exact ih0 _ _ _ _
      | exact ih1 _ _ _
      | exact ih2 _ _ _
      | exact insolvencyref1_IsBusiness.mono _ _ _
      | exact LeO.none _
      | refine LeO.ite ?_ ?_
      | refine LeO.bind ?_ (fun _ => ?_)
set_option maxHeartbeats 8000000 in
set_option maxRecDepth 100000 in
theorem insolvencyref1_AddDays.calls (k : Nat) (a0 : Int) (a1 : Int) (A2 : Option Addr) (c2 : Nat) (l2 : List Int) (r1 : Int) (r2 : Int) (w : World) (hr2 : Kd.C (Kd.int .i64) w A2 l2.length l2) (hc2 : l2.length ≤ c2) (h : insolvencyref1_AddDays.f k a0 a1 l2 = some (r1, r2)) :
    Calls Try.prog 61 #[.int .i64 a0, .int .i64 a1, .slice A2 l2.length c2] w fun e w' => e = .returned (.tuple #[.int .i64 r1, .int .i64 r2]) ∧ Drawn0 w w' := by
  have HR2 := Aside0.mk hr2
  have HC2 := Aside0.mk hc2
  clear hr2 hc2
  have H : (if (l2.length : Int) > 1000 then (some (0, 2)) else ((insolvencyref1_IsDay.f a0).bind fun t125 => (if t125 = true then (if a1 < 0 then (insolvencyref1_AddDays.j0 k a0 a1 l2 true) else (insolvencyref1_AddDays.j0 k a0 a1 l2 (decide (a1 > 1048576)))) else (insolvencyref1_AddDays.j0 k a0 a1 l2 true)))) = some (r1, r2) := h
  clear h
  by_cases c4 : (l2.length : Int) > 1000
  · rw [if_pos c4] at H
    have c4b0 : decide (1000 < (l2.length : Int)) = true := decide_eq_true c4
    have c4b1 : decide (1000 < l2.length) = true := decide_eq_true (by omega)
    clear c4
    simp only [Option.some.injEq, Prod.mk.injEq] at H
    obtain ⟨rfl, rfl⟩ := H
    go_enter Try.func61, Try.ntmps61
    go_wp2
    go_ret2
    exact ⟨by first | rfl | (simp; done) | (simp [*]; done), by repeat (first | exact Drawn0.refl _ | apply Drawn0.step)⟩
  · rw [if_neg c4] at H
    have c4b0 : decide (1000 < (l2.length : Int)) = false := decide_eq_false c4
    have c4b1 : decide (1000 < l2.length) = false := decide_eq_false (by omega)
    clear c4
    have HC5 := Aside0.mk H
    clear H
    go_enter Try.func61, Try.ntmps61
    go_upto_region 3 with (fail)
    go_cut [22] (fun v22 wc => ∃ (kq : Nat) (x22_4 : Bool), v22 = .bool x22_4 ∧ Aside0 (insolvencyref1_AddDays.j0 kq a0 a1 l2 x22_4 = some (r1, r2)) ∧ Aside0 (kq ≤ k) ∧ Drawn0 w wc)
    case first =>
      have H := HC5.out
      clear HC5
      replace H := Option.bind_eq_some_iff.mp H
      obtain ⟨t125, A60, H⟩ := H
      replace H : (if t125 = true then (if a1 < 0 then (insolvencyref1_AddDays.j0 k a0 a1 l2 true) else (insolvencyref1_AddDays.j0 k a0 a1 l2 (decide (a1 > 1048576)))) else (insolvencyref1_AddDays.j0 k a0 a1 l2 true)) = some (r1, r2) := H
      have A6 := Aside0.mk A60
      clear A60
      by_cases c7 : t125 = true
      · subst c7
        have H1 : (if a1 < 0 then (insolvencyref1_AddDays.j0 k a0 a1 l2 true) else (insolvencyref1_AddDays.j0 k a0 a1 l2 (decide (a1 > 1048576)))) = some (r1, r2) := by rw [if_pos rfl] at H; exact H
        clear H
        have H := H1
        clear H1
        by_cases c8 : a1 < 0
        · rw [if_pos c8] at H
          have c8b0 : decide (a1 < 0) = true := decide_eq_true c8
          clear c8
          (first | rw [c8b0] | (simp only [i64_w, i32_w]; rw [c8b0]) | skip)
          have H' := Aside0.mk H
          clear H
          go_wp2_with (first | ((with_reducible refine gate_callee (f := 69) rfl ?_); refine goesL_ (some 13) rfl rfl Try.func69 (by kernel_rfl) rfl #[.int .i64 a0] rfl (by (try simp only [List.map_toArray, List.map_cons, List.map_nil]); first | done | rfl | (simp only [List.length_drop, List.length_take]; rfl)) ?_; (with_reducible refine (insolvencyref1_IsDay.calls a0 true _ A6.out).mono ?_); rintro e w' ⟨rfl, ⟨nd, rfl⟩⟩; refine ⟨_, rfl, ?_⟩))
          go_meet
          case rel => exact ⟨_, (true), (by first | rfl | (simp; done) | (simp [*]; done)), H', ⟨by first | omega | exact Nat.le_refl _⟩, by repeat (first | exact Drawn0.refl _ | apply Drawn0.step)⟩
        · rw [if_neg c8] at H
          have c8b0 : decide (a1 < 0) = false := decide_eq_false c8
          clear c8
          (first | rw [c8b0] | (simp only [i64_w, i32_w]; rw [c8b0]) | skip)
          have H' := Aside0.mk H
          clear H
          go_wp2_with (first | ((with_reducible refine gate_callee (f := 69) rfl ?_); refine goesL_ (some 13) rfl rfl Try.func69 (by kernel_rfl) rfl #[.int .i64 a0] rfl (by (try simp only [List.map_toArray, List.map_cons, List.map_nil]); first | done | rfl | (simp only [List.length_drop, List.length_take]; rfl)) ?_; (with_reducible refine (insolvencyref1_IsDay.calls a0 true _ A6.out).mono ?_); rintro e w' ⟨rfl, ⟨nd, rfl⟩⟩; refine ⟨_, rfl, ?_⟩))
          go_meet
          case rel => exact ⟨_, (decide (a1 > 1048576)), (by first | rfl | (simp; done) | (simp [*]; done)), H', ⟨by first | omega | exact Nat.le_refl _⟩, by repeat (first | exact Drawn0.refl _ | apply Drawn0.step)⟩
      · replace c7 := Bool.eq_false_iff.mpr c7
        subst c7
        have H1 : (insolvencyref1_AddDays.j0 k a0 a1 l2 true) = some (r1, r2) := by rw [if_neg (show ¬ (false = true) by decide)] at H; exact H
        clear H
        have H := H1
        clear H1
        have H' := Aside0.mk H
        clear H
        go_wp2_with (first | ((with_reducible refine gate_callee (f := 69) rfl ?_); refine goesL_ (some 13) rfl rfl Try.func69 (by kernel_rfl) rfl #[.int .i64 a0] rfl (by (try simp only [List.map_toArray, List.map_cons, List.map_nil]); first | done | rfl | (simp only [List.length_drop, List.length_take]; rfl)) ?_; (with_reducible refine (insolvencyref1_IsDay.calls a0 false _ A6.out).mono ?_); rintro e w' ⟨rfl, ⟨nd, rfl⟩⟩; refine ⟨_, rfl, ?_⟩))
        go_meet
        case rel => exact ⟨_, (true), (by first | rfl | (simp; done) | (simp [*]; done)), H', ⟨by first | omega | exact Nat.le_refl _⟩, by repeat (first | exact Drawn0.refl _ | apply Drawn0.step)⟩
    case rest =>
      clear HC5
      try clear c2
      try clear p2
      try clear c4
      try clear c4b0
      try clear c4b1
      try clear c6
      try clear c7
      try clear c8
      try clear c8b0
      obtain ⟨kq, x22_4, rfl, HA, HJ4, ⟨mc4, rfl⟩⟩ := hcut
      cases kq with
      | zero => exact absurd HA.out (by simp [insolvencyref1_AddDays.j0])
      | succ kj4 =>
        have H := HA.out
        clear HA
        simp only [insolvencyref1_AddDays.j0] at H
        by_cases c9 : x22_4 = true
        · subst c9
          have H1 : (some (0, 1)) = some (r1, r2) := by rw [if_pos rfl] at H; exact H
          clear H
          have H := H1
          clear H1
          simp only [Option.some.injEq, Prod.mk.injEq] at H
          obtain ⟨rfl, rfl⟩ := H
          go_wp2
          go_ret2
          exact ⟨by first | rfl | (simp; done) | (simp [*]; done), by repeat (first | exact Drawn0.refl _ | apply Drawn0.step)⟩
        · replace c9 := Bool.eq_false_iff.mpr c9
          subst c9
          have H1 : (if a1 > 0 then (insolvencyref1_AddDays.j1 kj4 a1 l2 (wrap64 (a0 + 1))) else (insolvencyref1_AddDays.j1 kj4 a1 l2 a0)) = some (r1, r2) := by rw [if_neg (show ¬ (false = true) by decide)] at H; exact H
          clear H
          have H := H1
          clear H1
          have HC10 := Aside0.mk H
          clear H
          go_upto_if 25 with (fail)
          go_cut [8] (fun v8 wc => ∃ (kq : Nat) (x8_9 : Int), v8 = .int .i64 x8_9 ∧ Aside0 (insolvencyref1_AddDays.j1 kq a1 l2 x8_9 = some (r1, r2)) ∧ Aside0 (kq ≤ kj4) ∧ Drawn0 w wc)
          case first =>
            have H := HC10.out
            clear HC10
            by_cases c11 : a1 > 0
            · rw [if_pos c11] at H
              have c11b0 : decide (0 < a1) = true := decide_eq_true c11
              clear c11
              (first | rw [c11b0] | (simp only [i64_w, i32_w]; rw [c11b0]) | skip)
              have H' := Aside0.mk H
              clear H
              go_wp2
              go_meet
              case rel => exact ⟨_, (wrap64 (a0 + 1)), (by first | rfl | (simp; done) | (simp [*]; done)), H', ⟨by have := HJ4.out; first | omega | exact Nat.le_refl _⟩, by repeat (first | exact Drawn0.refl _ | apply Drawn0.step)⟩
            · rw [if_neg c11] at H
              have c11b0 : decide (0 < a1) = false := decide_eq_false c11
              clear c11
              (first | rw [c11b0] | (simp only [i64_w, i32_w]; rw [c11b0]) | skip)
              have H' := Aside0.mk H
              clear H
              go_wp2
              go_meet
              case rel => exact ⟨_, (a0), (by first | rfl | (simp; done) | (simp [*]; done)), H', ⟨by have := HJ4.out; first | omega | exact Nat.le_refl _⟩, by repeat (first | exact Drawn0.refl _ | apply Drawn0.step)⟩
          case rest =>
            clear HC10
            try clear c1
            try clear c2
            try clear p2
            try clear c4
            try clear c4b0
            try clear c4b1
            try clear c6
            try clear p6
            try clear c7
            try clear c8
            try clear c8b0
            try clear c9
            try clear c11
            try clear c11b0
            try clear p2
            obtain ⟨kq, x8_9, rfl, HA, HJ9, ⟨mc9, rfl⟩⟩ := hcut
            cases kq with
            | zero => exact absurd HA.out (by simp [insolvencyref1_AddDays.j1])
            | succ kj9 =>
              have H := HA.out
              clear HA
              simp only [insolvencyref1_AddDays.j1] at H
              have H' := Aside0.mk H
              clear H
              go_wp2
              go_loopg [1, 8] kj9 (fun kq v1 v8 w' => ∃ (x1_3 : Int) (x8_3 : Int), v1 = .int .i64 x1_3 ∧ v8 = .int .i64 x8_3 ∧ Aside0 (insolvencyref1_AddDays.l0 kq x1_3 l2 x8_3 = some (r1, r2)) ∧ Aside0 (kq ≤ kj9) ∧ Drawn0 w w')
              case atStart => exact ⟨(a1), (x8_9), (by first | rfl | (simp; done) | (simp [*]; done)), (by first | rfl | (simp; done) | (simp [*]; done)), H', ⟨Nat.le_refl _⟩, by repeat (first | exact Drawn0.refl _ | apply Drawn0.step)⟩
              case round =>
                clear H'
                try clear c1
                try clear c2
                try clear p2
                try clear c4
                try clear c4b0
                try clear c4b1
                try clear c6
                try clear p6
                try clear c7
                try clear c8
                try clear c8b0
                try clear c9
                try clear c11
                try clear c11b0
                try clear p2
                try clear p6
                obtain ⟨x1_3, x8_3, rfl, rfl, HA, HK3, ⟨m3, rfl⟩⟩ := hrel
                cases gk with
                | zero => exact absurd HA.out (by simp [insolvencyref1_AddDays.l0])
                | succ k3 =>
                  have H := HA.out
                  clear HA
                  simp only [insolvencyref1_AddDays.l0] at H
                  by_cases c12 : x8_3 ≤ 1048576
                  · rw [if_pos c12] at H
                    have c12b0 : decide (x8_3 ≤ 1048576) = true := decide_eq_true c12
                    clear c12
                    replace H := Option.bind_eq_some_iff.mp H
                    obtain ⟨t126, A130, H⟩ := H
                    replace H : (if t126 = true then (if x1_3 ≤ 1 then (some (x8_3, 0)) else (insolvencyref1_AddDays.l0 k3 (wrap64 (x1_3 - 1)) l2 (wrap64 (x8_3 + 1)))) else (insolvencyref1_AddDays.l0 k3 x1_3 l2 (wrap64 (x8_3 + 1)))) = some (r1, r2) := H
                    have A13 := Aside0.mk A130
                    clear A130
                    by_cases c14 : t126 = true
                    · subst c14
                      have H1 : (if x1_3 ≤ 1 then (some (x8_3, 0)) else (insolvencyref1_AddDays.l0 k3 (wrap64 (x1_3 - 1)) l2 (wrap64 (x8_3 + 1)))) = some (r1, r2) := by rw [if_pos rfl] at H; exact H
                      clear H
                      have H := H1
                      clear H1
                      by_cases c15 : x1_3 ≤ 1
                      · rw [if_pos c15] at H
                        have c15b0 : decide (x1_3 ≤ 1) = true := decide_eq_true c15
                        clear c15
                        simp only [Option.some.injEq, Prod.mk.injEq] at H
                        obtain ⟨rfl, rfl⟩ := H
                        go_wp2_with (first | ((with_reducible refine gate_callee (f := 70) rfl ?_); refine goesL_ (some 34) rfl rfl Try.func70 (by kernel_rfl) rfl #[.int .i64 x8_3, .slice A2 l2.length c2] rfl (by (try simp only [List.map_toArray, List.map_cons, List.map_nil]); first | done | rfl | (simp only [List.length_drop, List.length_take]; rfl)) ?_; (with_reducible refine (insolvencyref1_IsBusiness.calls k3 x8_3 _ _ l2 true _ ?side1 ?side2 A13.out).mono ?_); (case side1 => repeat (first | exact HR2.out | (with_reducible refine Kd.C_alloc ?_ _) | (with_reducible refine Kd.C_drewN ?_ _) | (with_reducible refine Kd.C_drew ?_))); (case side2 => exact HC2.out); rintro e w' ⟨rfl, ⟨nd, rfl⟩⟩; refine ⟨_, rfl, ?_⟩))
                        go_ret2
                        exact ⟨by first | rfl | (simp; done) | (simp [*]; done), by repeat (first | exact Drawn0.refl _ | apply Drawn0.step)⟩
                      · rw [if_neg c15] at H
                        have c15b0 : decide (x1_3 ≤ 1) = false := decide_eq_false c15
                        clear c15
                        have H' := Aside0.mk H
                        clear H
                        go_wp2_with (first | ((with_reducible refine gate_callee (f := 70) rfl ?_); refine goesL_ (some 34) rfl rfl Try.func70 (by kernel_rfl) rfl #[.int .i64 x8_3, .slice A2 l2.length c2] rfl (by (try simp only [List.map_toArray, List.map_cons, List.map_nil]); first | done | rfl | (simp only [List.length_drop, List.length_take]; rfl)) ?_; (with_reducible refine (insolvencyref1_IsBusiness.calls k3 x8_3 _ _ l2 true _ ?side1 ?side2 A13.out).mono ?_); (case side1 => repeat (first | exact HR2.out | (with_reducible refine Kd.C_alloc ?_ _) | (with_reducible refine Kd.C_drewN ?_ _) | (with_reducible refine Kd.C_drew ?_))); (case side2 => exact HC2.out); rintro e w' ⟨rfl, ⟨nd, rfl⟩⟩; refine ⟨_, rfl, ?_⟩))
                        go_roundg k3
                        case measure => have := HJ4.out; have := HJ9.out; have := HK3.out; omega
                        case rel => exact ⟨(wrap64 (x1_3 - 1)), (wrap64 (x8_3 + 1)), (by first | rfl | (simp; done) | (simp [*]; done)), (by first | rfl | (simp; done) | (simp [*]; done)), H', ⟨by have := HJ4.out; have := HJ9.out; have := HK3.out; omega⟩, by repeat (first | exact Drawn0.refl _ | apply Drawn0.step)⟩
                    · replace c14 := Bool.eq_false_iff.mpr c14
                      subst c14
                      have H1 : (insolvencyref1_AddDays.l0 k3 x1_3 l2 (wrap64 (x8_3 + 1))) = some (r1, r2) := by rw [if_neg (show ¬ (false = true) by decide)] at H; exact H
                      clear H
                      have H := H1
                      clear H1
                      have H' := Aside0.mk H
                      clear H
                      go_wp2_with (first | ((with_reducible refine gate_callee (f := 70) rfl ?_); refine goesL_ (some 34) rfl rfl Try.func70 (by kernel_rfl) rfl #[.int .i64 x8_3, .slice A2 l2.length c2] rfl (by (try simp only [List.map_toArray, List.map_cons, List.map_nil]); first | done | rfl | (simp only [List.length_drop, List.length_take]; rfl)) ?_; (with_reducible refine (insolvencyref1_IsBusiness.calls k3 x8_3 _ _ l2 false _ ?side1 ?side2 A13.out).mono ?_); (case side1 => repeat (first | exact HR2.out | (with_reducible refine Kd.C_alloc ?_ _) | (with_reducible refine Kd.C_drewN ?_ _) | (with_reducible refine Kd.C_drew ?_))); (case side2 => exact HC2.out); rintro e w' ⟨rfl, ⟨nd, rfl⟩⟩; refine ⟨_, rfl, ?_⟩))
                      go_roundg k3
                      case measure => have := HJ4.out; have := HJ9.out; have := HK3.out; omega
                      case rel => exact ⟨(x1_3), (wrap64 (x8_3 + 1)), (by first | rfl | (simp; done) | (simp [*]; done)), (by first | rfl | (simp; done) | (simp [*]; done)), H', ⟨by have := HJ4.out; have := HJ9.out; have := HK3.out; omega⟩, by repeat (first | exact Drawn0.refl _ | apply Drawn0.step)⟩
                  · rw [if_neg c12] at H
                    have c12b0 : decide (x8_3 ≤ 1048576) = false := decide_eq_false c12
                    clear c12
                    simp only [Option.some.injEq, Prod.mk.injEq] at H
                    obtain ⟨rfl, rfl⟩ := H
                    go_wp2
                    go_ret2
                    exact ⟨by first | rfl | (simp; done) | (simp [*]; done), by repeat (first | exact Drawn0.refl _ | apply Drawn0.step)⟩

end Go.Proofs.Ytpfiecjacpbhkaa.F

/- insolvencyref33.matterOf, required, opened and change: by their contracts in the words of docket's own. -/
namespace Go.Proofs.Ytpfiecjacpbhkaa.D
open Go.RowKit Go.Proofs.YtpfiecjacpbhkaaW.PrintWords Go.Proofs.YtpfiecjacpbhkaaW.PrintLast Go.Proofs.YtpfiecjacpbhkaaW.PrintMore
set_option linter.unusedVariables false
set_option linter.unusedSimpArgs false

set_option maxHeartbeats 8000000 in
set_option maxRecDepth 100000 in
theorem matterOf_calls (d a p : Int) (v : Value) (A : Option Addr) (c : Nat) (l : List S50) (x : Int) (w : World) (hlen : l.length < 4611686018427387904) (hr : Kd.C k50 w A l.length l) :
    Calls Try.prog 47 #[.agg #[.int .i64 d, .int .i64 a, .int .i64 p, v, .slice A l.length c], .int .i64 x] w fun e w' => e = .returned (.int .i64 (fnd x l 0)) ∧ Below w.heap.size w w' := by
  have hu := Try.underlying30
  have hu2 := Try.underlying50
  have HR := Aside0.mk hr
  obtain ⟨r, hr⟩ : ∃ r, fnd x l 0 = r := ⟨_, rfl⟩
  rw [hr]
  have R0 := Aside0.mk hr
  clear hr
  have B0 : Below w.heap.size w (w.alloc (.cells #[.int .i64 d, .int .i64 a, .int .i64 p, v, .slice A l.length c] 30 (0, 0))) := below_alloc (Below.refl _ _) _
  have K0 := blk_new w (.cells #[.int .i64 d, .int .i64 a, .int .i64 p, v, .slice A l.length c] 30 (0, 0))
  go_enter Try.func47, Try.ntmps47
  go_wp2_with (fail)
  generalize w.alloc (.cells #[.int .i64 d, .int .i64 a, .int .i64 p, v, .slice A l.length c] 30 (0, 0)) = W0 at *
  have HB0 := Aside0.mk B0
  have HK0 := Aside0.mk K0
  clear B0 K0
  go_loopg [5] (l.length) (fun kx s5 wr => ∃ (j : Nat), s5 = .int .i64 j ∧ j ≤ l.length ∧ l.length - j ≤ kx ∧ Aside0 (fnd x (l.drop j) j = r) ∧ Aside0 (Below w.heap.size w wr) ∧ Aside0 (wr.heap[w.heap.size]? = some (.cells #[.int .i64 d, .int .i64 a, .int .i64 p, v, .slice A l.length c] 30 (0, 0))))
  case atStart => exact ⟨0, rfl, Nat.zero_le _, by omega, ⟨by simpa using R0.out⟩, HB0, HK0⟩
  case round =>
    obtain ⟨j, rfl, hj, hk, I, HB, HK⟩ := hrel
    clear HB0 HK0 R0
    have o4 : wr.cell? ⟨w.heap.size, 4, none⟩ = some (.slice A l.length c) := (blk_cell HK.out 4).trans rfl
    by_cases hlt : j < l.length
    · obtain ⟨k1, rfl⟩ : ∃ m, gk = m + 1 := ⟨gk - 1, by omega⟩
      have hd : decide ((j : Int) < (l.length : Int)) = true := decide_eq_true (by omega)
      have p0 : 0 ≤ (j : Int) := Int.natCast_nonneg j
      have q0 : (j : Int) < (l.length : Int) := by omega
      have er : rd_T50 l (j : Int) = l[j] := by
        unfold rd_T50
        rw [Int.toNat_natCast, List.getD_eq_getElem?_getD, List.getElem?_eq_getElem hlt]
        rfl
      have I2 := I.out
      rw [List.drop_eq_getElem_cons hlt, fnd] at I2
      clear I
      obtain ⟨ad, ea, h0, h1, h2, h3, h4⟩ := at_T50 HR.out (j : Int) p0 q0
      cases ea
      rw [er, Int.toNat_natCast] at h0
      replace h0 := (HB.out.cell (World.block_lt_of_cell? w _ h0)).trans h0
      have HW := Aside0.mk (show wrap64 ((j : Int) + 1) = ((j + 1 : Nat) : Int) by unfold wrap64; omega)
      generalize l[j] = y at *
      have p1 := eq_true p0
      have q1 := eq_true q0
      clear p0 q0 h1 h2 h3 h4
      by_cases hy : y.f0 = x
      · rw [if_pos hy] at I2
        have hb0 : (y.f0 == x) = true := by simpa using hy
        subst I2
        clear hy
        go_wp2
        go_ret
        exact ⟨rfl, HB.out⟩
      · rw [if_neg hy] at I2
        have hb0 : (y.f0 == x) = false := by simpa using hy
        have I3 := Aside0.mk I2
        clear I2 hy
        go_wp2
        go_roundg k1
        case measure => omega
        case rel => exact ⟨j + 1, by first | (rw [HW.out]; done) | (simp only [HW.out]; done) | go_num, by omega, by omega, I3, HB, HK⟩
    · have ej : j = l.length := by omega
      subst ej
      have I2 := I.out
      rw [List.drop_length, fnd] at I2
      subst I2
      have hd : decide ((l.length : Int) < (l.length : Int)) = false := decide_eq_false (by omega)
      go_wp2
      go_ret
      exact ⟨rfl, HB.out⟩

set_option maxHeartbeats 8000000 in
set_option maxRecDepth 100000 in
theorem required_calls (kind : Int) (w : World) (hk : 2 ≤ kind ∧ kind ≤ 6) : Calls Try.prog 48 #[.int .i64 kind] w fun e w' => e = .returned (.int .i64 (kind - 1)) ∧ Below w.heap.size w w' := by
  have B0 : Below w.heap.size w (w.alloc (.cells #[.int .i64 0, .int .i64 0, .int .i64 1, .int .i64 2, .int .i64 3, .int .i64 4, .int .i64 5] 3 (0, 0))) := below_alloc (Below.refl _ _) _
  have hu := Try.underlying25
  have hkk : kind = 2 ∨ kind = 3 ∨ kind = 4 ∨ kind = 5 ∨ kind = 6 := by omega
  rcases hkk with rfl | rfl | rfl | rfl | rfl
  all_goals go_enter Try.func48, Try.ntmps48
  all_goals go_wp2
  all_goals go_ret
  all_goals exact ⟨rfl, B0⟩

set_option maxHeartbeats 8000000 in
set_option maxRecDepth 100000 in
theorem opened_err (g : Nat) (d a p : Int) (hv : Value) (A : Option Addr) (c : Nat) (l : List S50) (id : Int) (w : World) (hlen : l.length ≤ c) (hl2 : l.length < 4611686018427387904)
    (hb : w.heap[g]? = some (.cells #[.int .i64 d, .int .i64 a, .int .i64 p, hv, .slice A l.length c] 30 (0, 0))) (hr : Kd.C k50 w A l.length l) (he : (openF l id).2 ≠ 0) :
    Calls Try.prog 46 #[.pointer (some ⟨g, 0, none⟩), .int .i64 id] w fun e w' => e = .returned (.int .i64 (openF l id).2) ∧ Below w.heap.size w w' := by
  have hu := Try.underlying30
  obtain ⟨o0, o1, o2, o3, hc4⟩ := cells5 ⟨hb⟩
  have HR := Aside0.mk hr
  clear hr
  unfold openF at he ⊢
  by_cases h1 : id < 0
  · rw [if_pos h1]
    have hd : decide (id < 0) = true := decide_eq_true h1
    go_enter Try.func46, Try.ntmps46
    go_wp2
    go_ret
    exact ⟨rfl, Below.refl _ _⟩
  · rw [if_neg h1] at he ⊢
    have hd : decide (id < 0) = false := decide_eq_false h1
    have hf := matterOf_calls d a p hv A c l id w hl2 HR.out
    generalize fnd id l 0 = q at *
    by_cases h2 : 0 ≤ q
    · rw [if_pos h2]
      have hd2 : decide (0 ≤ q) = true := decide_eq_true h2
      go_enter Try.func46, Try.ntmps46
      go_wp2_with (go_at_call 47; refine hf.mono ?_; rintro e w' ⟨rfl, hbl⟩)
      go_ret
      exact ⟨rfl, hbl⟩
    · rw [if_neg h2] at he ⊢
      have hd2 : decide (0 ≤ q) = false := decide_eq_false h2
      by_cases h3 : (l.length : Int) ≥ 32
      · rw [if_pos h3]
        have hd3 : decide ((32 : Int) ≤ (l.length : Int)) = true := decide_eq_true h3
        go_enter Try.func46, Try.ntmps46
        go_wp2_with (go_at_call 47; refine hf.mono ?_; rintro e w' ⟨rfl, hbl⟩; have hc5 := pw_cell_below hbl hc4)
        go_ret
        exact ⟨rfl, hbl⟩
      · rw [if_neg h3] at he
        exact absurd rfl he

set_option maxHeartbeats 8000000 in
set_option maxRecDepth 100000 in
theorem opened_ok (g : Nat) (d a p : Int) (hv u : Value) (l : List S50) (id : Int) (w0 w : World) (hB : Below w0.heap.size w0 w) (hg : w0.heap.size ≤ g)
    (hb : w.heap[g]? = some (.cells #[.int .i64 d, .int .i64 a, .int .i64 p, hv, u] 30 (0, 0))) (ho : Kd.R k50 50 w w0.heap.size (fun _ => True) u l) (he : (openF l id).2 = 0) :
    Calls Try.prog 46 #[.pointer (some ⟨g, 0, none⟩), .int .i64 id] w fun e w' => ∃ u', e = .returned (.int .i64 0) ∧ w'.heap[g]? = some (.cells #[.int .i64 d, .int .i64 a, .int .i64 p, hv, u'] 30 (0, 0)) ∧
      Kd.R k50 50 w' w0.heap.size (fun _ => True) u' (openF l id).1 ∧ Below w0.heap.size w0 w' ∧ (∀ k, k < w.heap.size → k ≠ g → some k ≠ u.ownBlock → w'.heap[k]? = w.heap[k]?) := by
  have hu := Try.underlying30
  have hu2 := Try.underlying50
  have hu3 := Try.underlying28
  obtain ⟨A, c, rfl⟩ := Kd.R_slice ho
  have hC := (Kd.R_reads' ho).2
  obtain ⟨o0, o1, o2, o3, hc4⟩ := cells5 ⟨hb⟩
  unfold openF at he ⊢
  by_cases h1 : id < 0
  · rw [if_pos h1] at he; cases he
  rw [if_neg h1] at he ⊢
  by_cases h2 : 0 ≤ fnd id l 0
  · rw [if_pos h2] at he; cases he
  rw [if_neg h2] at he ⊢
  by_cases h3 : (l.length : Int) ≥ 32
  · rw [if_pos h3] at he; cases he
  rw [if_neg h3] at he ⊢
  clear he
  have hf := matterOf_calls d a p hv A c l id w (by omega) hC.2
  have hd : decide (id < 0) = false := decide_eq_false h1
  have hd2 : decide (0 ≤ fnd id l 0) = false := decide_eq_false h2
  have hd3 : decide ((32 : Int) ≤ (l.length : Int)) = false := decide_eq_false h3
  generalize fnd id l 0 = q at *
  have HO := Aside0.mk ho
  have HL : l.length < 32 := by omega
  have BK := Aside0.mk hb
  have HBB := Aside0.mk hB
  clear ho hC hb hB h1 h2 h3
  go_enter Try.func46, Try.ntmps46
  go_wp2_with (first | (go_at_call 47; refine hf.mono ?_; rintro e w1 ⟨rfl, hbl⟩; have hc5 := pw_cell_below hbl hc4; have HO1 := Aside0.mk (Kd.R_below HO.out hbl); have BK1 := Aside0.mk (blk_below BK.out hbl); have HB1 := Aside0.mk (below_then HBB.out HBB.out.size hbl)) | ((with_reducible refine gate_builtin (b := .append) (xs := #[.tmp 23, .tmp 26]) rfl ?_); at_builtin; refine Kd.R_append k50 (w0 := w0) w0.heap.size rfl (.tmp 23) (.tmp 26) 28 50 (.agg #[(.int .i64 0), (.int .i64 0), (.int .i64 0), (.int .i64 0), (.bool false)]) 40 rfl Try.underlying28 info50 rfl (by decide) (by omega) _ l (⟨id, 1, 0, 0, false⟩ : S50) [.int .i64 id, .int .i64 1, .int .i64 0, .int .i64 0, .bool false] (fun _ => True) (fun _ => False) rfl rfl ?aP (fun _ hk => hk.elim) ?aF ?aO ?aB ?aS ?aL ?_; (case aP => exact k50_mkM _ _ _ (⟨id, 1, 0, 0, false⟩ : S50)); (case aB => exact HB1.out); (case aF => exact (fun _ _ => trivial)); (case aO => exact HO1.out); (case aS => exact HB1.out.size); (case aL => omega); intro v2 w2 ho2 hb2 hgr hat; obtain ⟨A2, c2, rfl⟩ := Kd.R_slice ho2; have hne : some g ≠ (Value.slice A l.length c).ownBlock := Kd.R_ne HO1.out BK1.out (by decide); have BK2 := blk_grown BK1.out hgr hne; have hz4 := (blk_cell BK2 4).trans rfl; have hy4 := blk_frozen BK2 4))
  go_ret
  simp only [List.length_append, List.length_cons, List.length_nil, Nat.zero_add] at ho2
  refine ⟨_, rfl, blk_put BK2 4 _ rfl, Kd.R_mono (Kd.R_far (p := ⟨g, 4, none⟩) (Kd.R_types ho2 BK2 (by decide)) (fun _ hk => hk.2) _) (fun _ _ => trivial), hb2.setCell hg _, fun k hk hkg hku => ?_⟩
  rw [Below.heap_setCell w2 ⟨g, 4, none⟩ _ k hkg, hgr.block k (Nat.lt_of_lt_of_le hk hbl.size) hku]
  exact hbl.block k hk

/-! ### change -/
def RAddAt (w : World) (day n : Int) (v : Value) (ad : Int × Int) : Prop :=
  ∀ w1, Below w.heap.size w w1 → Calls Try.prog 61 #[.int .i64 day, .int .i64 n, v] w1 fun e w2 => e = .returned (.tuple #[.int .i64 ad.1, .int .i64 ad.2]) ∧ Below w1.heap.size w1 w2
theorem option_some (o : Int) (w : World) : Calls Try.prog 59 #[.int .i64 o] w fun e w' => e = .returned (.bool (decide (0 ≤ o ∧ o < 4))) ∧ Below w.heap.size w w' := by
  refine (insolvencyref33_option.calls o (decide (0 ≤ o ∧ o < 4)) w ?_).mono (fun e w' ⟨h1, h2⟩ => ⟨h1, h2.below⟩)
  unfold insolvencyref33_option.f
  by_cases h : o ≥ 0
  · rw [if_pos h]
    by_cases h2 : o < 4
    · simp [h2, h]
    · simp [h2]
  · rw [if_neg h]
    simp; omega

set_option maxHeartbeats 8000000 in
set_option maxRecDepth 100000 in
theorem rchange_opt (b o gO : Nat) (kind day id opt : Int) (w : World) (hk : kind = 4 ∨ kind = 6) (ho : ¬ (0 ≤ opt ∧ opt < 4)) :
    Calls Try.prog 49 #[.pointer (some ⟨gO, 0, none⟩), .pointer (some ⟨b, o, none⟩), .agg #[.int .i64 kind, .int .i64 day, .int .i64 id, .int .i64 opt]] w fun e w' => e = .returned (.int .i64 41) ∧ Below w.heap.size w w' := by
  have hu := Try.underlying47
  have B1 : Below w.heap.size w (w.alloc (.cells #[.int .i64 kind, .int .i64 day, .int .i64 id, .int .i64 opt] 47 (0, 0))) := below_alloc (Below.refl _ _) _
  have hop := fun w' => option_some opt w'
  rw [decide_eq_false ho] at hop
  rcases hk with rfl | rfl
  all_goals go_enter Try.func49, Try.ntmps49
  all_goals go_wp2_with (go_at_call 59; refine (hop _).mono ?_; rintro e w2 ⟨rfl, hb⟩)
  all_goals go_ret
  all_goals exact ⟨rfl, below_step B1 hb⟩

set_option maxHeartbeats 8000000 in
set_option maxRecDepth 100000 in
theorem rchange_add (b o gO : Nat) (kind day id opt d ans app : Int) (v u : Value) (ad : Int × Int) (w : World) (hk : kind = 2 ∨ kind = 4 ∧ 0 ≤ opt ∧ opt < 4)
    (hO : w.heap[gO]? = some (.cells #[.int .i64 d, .int .i64 ans, .int .i64 app, v, u] 30 (0, 0))) (ha : RAddAt w day (if kind = 2 then ans else app) v ad) (he : ad.2 ≠ 0) :
    Calls Try.prog 49 #[.pointer (some ⟨gO, 0, none⟩), .pointer (some ⟨b, o, none⟩), .agg #[.int .i64 kind, .int .i64 day, .int .i64 id, .int .i64 opt]] w fun e w' => e = .returned (.int .i64 ad.2) ∧ Below w.heap.size w w' := by
  have hu := Try.underlying47
  have hu2 := Try.underlying27
  have hu3 := Try.underlying30
  have B1 : Below w.heap.size w (w.alloc (.cells #[.int .i64 kind, .int .i64 day, .int .i64 id, .int .i64 opt] 47 (0, 0))) := below_alloc (Below.refl _ _) _
  have K1 := blk_new w (.cells #[.int .i64 kind, .int .i64 day, .int .i64 id, .int .i64 opt] 47 (0, 0))
  have he2 : (ad.2 != 0) = true := by simpa using he
  obtain ⟨a1, a2⟩ := ad
  have KO := blk_below hO B1
  obtain ⟨f0, f1, f2, f3⟩ := cells4 ⟨K1⟩
  obtain ⟨o0, o1, o2, o3, o4⟩ := cells5 ⟨KO⟩
  rcases hk with rfl | ⟨rfl, hk0, hk1⟩
  · rw [if_pos rfl] at ha
    go_enter Try.func49, Try.ntmps49
    go_upto_region 9 with (fail)
    generalize w.alloc (.cells #[.int .i64 2, .int .i64 day, .int .i64 id, .int .i64 opt] 47 (0, 0)) = W1 at *
    have hA := ha W1.drew (below_drew1 B1)
    have B2 := below_drew1 B1
    clear ha he hO
    go_region_held3 (fun w_ => w_.cell? ⟨w.heap.size, 1, none⟩ = some (.int .i64 day) ∧ w_.cell? ⟨gO, 3, none⟩ = some v) (first | exact ⟨f1, o3⟩ | exact ⟨f1', o3'⟩ | go_keep) (first | (go_at_call 61; refine hA.mono ?_; rintro e w2 ⟨rfl, hb⟩; have f1' := pw_cell_below hb (show W1.drew.cell? _ = _ from f1); have o3' := pw_cell_below hb (show W1.drew.cell? _ = _ from o3)))
    go_wp2
    go_ret
    exact ⟨rfl, below_step B2 hb⟩
  · rw [if_neg (by decide)] at ha
    have hop := option_some opt (w.alloc (.cells #[.int .i64 4, .int .i64 day, .int .i64 id, .int .i64 opt] 47 (0, 0)))
    rw [decide_eq_true (⟨hk0, hk1⟩ : 0 ≤ opt ∧ opt < 4)] at hop
    go_enter Try.func49, Try.ntmps49
    go_upto_region 9 with (go_at_call 59; refine hop.mono ?_; rintro e w2 ⟨rfl, hb⟩; have f0' := pw_cell_below hb f0; have f1' := pw_cell_below hb f1; have f3' := pw_cell_below hb f3; have o1' := pw_cell_below hb o1; have o2' := pw_cell_below hb o2; have o3' := pw_cell_below hb o3)
    have B2 := below_step B1 hb
    have hA := ha w2.drew (below_drew1 B2)
    have B3 := below_drew1 B2
    clear ha he hO hop
    go_region_held3 (fun w_ => w_.cell? ⟨w.heap.size, 1, none⟩ = some (.int .i64 day) ∧ w_.cell? ⟨gO, 3, none⟩ = some v) (first | exact ⟨f1', o3'⟩ | exact ⟨f1'', o3''⟩ | go_keep) (first | (go_at_call 61; refine hA.mono ?_; rintro e w3 ⟨rfl, hb3⟩; have f1'' := pw_cell_below hb3 (show w2.drew.cell? _ = _ from f1'); have o3'' := pw_cell_below hb3 (show w2.drew.cell? _ = _ from o3')))
    go_wp2
    go_ret
    exact ⟨rfl, below_step B3 hb3⟩

def rchgM (m : S50) (kind due opt : Int) : S50 := ⟨m.f0, kind, if kind = 6 then m.f2 else due, if kind = 4 ∨ kind = 6 then opt else m.f3, m.f4⟩
def RPost (w0 w : World) (g cap : Nat) (ms ms' : List S50) (ok : Nat → Prop) (w' : World) : Prop :=
  Kd.R k50 50 w' w0.heap.size ok (.slice (some ⟨g, 0, none⟩) ms.length cap) ms' ∧ Below w0.heap.size w0 w' ∧ ∀ k, k < w.heap.size → k ≠ g → w'.heap[k]? = w.heap[k]?
section
variable {g cap : Nat} {ok : Nat → Prop} {ms : List S50} {w0 w V : World}
theorem rfin (hB : Below w0.heap.size w0 w) (hg0 : w0.heap.size ≤ g) (hBV : Below w.heap.size w V) (hr : Kd.R k50 50 V w0.heap.size ok (.slice (some ⟨g, 0, none⟩) ms.length cap) ms) (i : Int) (h0 : 0 ≤ i) (h1 : i < ms.length) (m : S50) (hm : rd_T50 ms i = m) (due opt : Int) :
    RPost w0 w g cap ms (ms.set i.toNat (rchgM m 2 due opt)) ok ((V.setCell ⟨g, i.toNat * 5 + 2, none⟩ (.int .i64 due)).setCell ⟨g, i.toNat * 5 + 1, none⟩ (.int .i64 2)) ∧
    RPost w0 w g cap ms (ms.set i.toNat (rchgM m 4 due opt)) ok ((((V.setCell ⟨g, i.toNat * 5 + 2, none⟩ (.int .i64 due)).setCell ⟨g, i.toNat * 5 + 1, none⟩ (.int .i64 2)).setCell ⟨g, i.toNat * 5 + 1, none⟩ (.int .i64 4)).setCell ⟨g, i.toNat * 5 + 3, none⟩ (.int .i64 opt)) := by
  have hV : Below w0.heap.size w0 V := below_then hB hB.size hBV
  have a1 := put2 hr i h0 h1 m hm due
  have a2 := put1 a1.1 i h0 h1 _ (rd_set ms i _ h0 h1) 2
  rw [List.set_set] at a2
  have a3 := put1 a2.1 i h0 h1 _ (rd_set ms i _ h0 h1) 4
  rw [List.set_set] at a3
  have a4 := put3 a3.1 i h0 h1 _ (rd_set ms i _ h0 h1) opt
  rw [List.set_set] at a4
  refine ⟨⟨a2.1, (hV.setCell hg0 _).setCell hg0 _, fun k hk hn => ?_⟩, ⟨a4.1, (((hV.setCell hg0 _).setCell hg0 _).setCell hg0 _).setCell hg0 _, fun k hk hn => ?_⟩⟩
  · rw [Below.heap_setCell _ _ _ k hn, Below.heap_setCell _ _ _ k hn]
    exact hBV.block k hk
  · rw [Below.heap_setCell _ _ _ k hn, Below.heap_setCell _ _ _ k hn, Below.heap_setCell _ _ _ k hn, Below.heap_setCell _ _ _ k hn]
    exact hBV.block k hk
theorem rfin2 (hB : Below w0.heap.size w0 w) (hg0 : w0.heap.size ≤ g) (hBV : Below w.heap.size w V) (hr : Kd.R k50 50 V w0.heap.size ok (.slice (some ⟨g, 0, none⟩) ms.length cap) ms) (i : Int) (h0 : 0 ≤ i) (h1 : i < ms.length) (m : S50) (hm : rd_T50 ms i = m) (opt : Int) :
    RPost w0 w g cap ms (ms.set i.toNat (rchgM m 3 0 opt)) ok ((V.setCell ⟨g, i.toNat * 5 + 1, none⟩ (.int .i64 3)).setCell ⟨g, i.toNat * 5 + 2, none⟩ (.int .i64 0)) ∧
    RPost w0 w g cap ms (ms.set i.toNat (rchgM m 5 0 opt)) ok ((V.setCell ⟨g, i.toNat * 5 + 1, none⟩ (.int .i64 5)).setCell ⟨g, i.toNat * 5 + 2, none⟩ (.int .i64 0)) ∧
    RPost w0 w g cap ms (ms.set i.toNat (rchgM m 6 0 opt)) ok ((V.setCell ⟨g, i.toNat * 5 + 1, none⟩ (.int .i64 6)).setCell ⟨g, i.toNat * 5 + 3, none⟩ (.int .i64 opt)) := by
  have hV : Below w0.heap.size w0 V := below_then hB hB.size hBV
  have a1 := fun s => put1 hr i h0 h1 m hm s
  have a2 := fun s => put2 (a1 s).1 i h0 h1 _ (rd_set ms i _ h0 h1) 0
  have a3 := put3 (a1 6).1 i h0 h1 _ (rd_set ms i _ h0 h1) opt
  simp only [List.set_set] at a2 a3
  refine ⟨⟨(a2 3).1, (hV.setCell hg0 _).setCell hg0 _, fun k hk hn => ?_⟩, ⟨(a2 5).1, (hV.setCell hg0 _).setCell hg0 _, fun k hk hn => ?_⟩, ⟨a3.1, (hV.setCell hg0 _).setCell hg0 _, fun k hk hn => ?_⟩⟩
  all_goals rw [Below.heap_setCell _ _ _ k hn, Below.heap_setCell _ _ _ k hn]
  all_goals exact hBV.block k hk
end

set_option maxHeartbeats 8000000 in
set_option maxRecDepth 100000 in
theorem rchange_ok (g gO : Nat) (i : Int) (cap : Nat) (ms : List S50) (ok : Nat → Prop) (kind day id opt d ans app : Int) (v u : Value) (ad : Int × Int) (w0 w : World) (hB : Below w0.heap.size w0 w) (h0 : 0 ≤ i) (h1 : i < ms.length)
    (hk : kind = 2 ∨ kind = 3 ∨ kind = 4 ∧ 0 ≤ opt ∧ opt < 4 ∨ kind = 5 ∨ kind = 6 ∧ 0 ≤ opt ∧ opt < 4)
    (hO : w.heap[gO]? = some (.cells #[.int .i64 d, .int .i64 ans, .int .i64 app, v, u] 30 (0, 0)))
    (hr : Kd.R k50 50 w w0.heap.size ok (.slice (some ⟨g, 0, none⟩) ms.length cap) ms)
    (ha : if kind = 2 ∨ kind = 4 then RAddAt w day (if kind = 2 then ans else app) v ad else ad = (0, 0)) (he : ad.2 = 0) :
    Calls Try.prog 49 #[.pointer (some ⟨gO, 0, none⟩), .pointer (some ⟨g, i.toNat * 5, none⟩), .agg #[.int .i64 kind, .int .i64 day, .int .i64 id, .int .i64 opt]] w fun e w' => e = .returned (.int .i64 0) ∧ RPost w0 w g cap ms (ms.set i.toNat (rchgM (rd_T50 ms i) kind ad.1 opt)) ok w' := by
  have hu := Try.underlying47
  have hu2 := Try.underlying27
  have hu3 := Try.underlying30
  have hu4 := Try.underlying50
  have hg0 : w0.heap.size ≤ g := by
    rcases Kd.R_base2 hr with h | ⟨k, h, hk⟩
    · simp [Value.ownBlock] at h
    · have : g = k := by simpa [Value.ownBlock] using h
      omega
  generalize hm : rd_T50 ms i = m at *
  have B1 : Below w.heap.size w (w.alloc (.cells #[.int .i64 kind, .int .i64 day, .int .i64 id, .int .i64 opt] 47 (0, 0))) := below_alloc (Below.refl _ _) _
  have K1 := blk_new w (.cells #[.int .i64 kind, .int .i64 day, .int .i64 id, .int .i64 opt] 47 (0, 0))
  have KO := blk_below hO B1
  have R1 := Kd.R_below hr B1
  have hgl : g < w.heap.size := World.block_lt_of_cell? w _ (elm hr i h0 h1 m hm).1
  have ng : g ≠ w.heap.size := by omega
  obtain ⟨f0, f1, f2, f3⟩ := cells4 ⟨K1⟩
  obtain ⟨o0, o1, o2, o3, o4⟩ := cells5 ⟨KO⟩
  obtain ⟨a1, a2⟩ := ad
  obtain rfl : a2 = 0 := he
  rcases hk with rfl | rfl | ⟨rfl, hk0, hk1⟩ | rfl | ⟨rfl, hk0, hk1⟩
  · rw [if_pos (.inl rfl), if_pos rfl] at ha
    go_enter Try.func49, Try.ntmps49
    go_upto_region 9 with (fail)
    generalize w.alloc (.cells #[.int .i64 2, .int .i64 day, .int .i64 id, .int .i64 opt] 47 (0, 0)) = W1 at *
    have hA := ha W1.drew (below_drew1 B1)
    have B2 := below_drew1 B1
    have R2 := Kd.R_drew R1
    clear ha hO
    go_region_held3 (fun w_ => w_.cell? ⟨w.heap.size, 0, none⟩ = some (.int .i64 2) ∧ w_.cell? ⟨w.heap.size, 1, none⟩ = some (.int .i64 day) ∧ w_.cell? ⟨gO, 3, none⟩ = some v) (first | exact ⟨f0, f1, o3⟩ | exact ⟨f0', f1', o3'⟩ | go_keep) (first | (go_at_call 61; refine hA.mono ?_; rintro e w2 ⟨rfl, hb⟩; have f0' := pw_cell_below hb (show W1.drew.cell? _ = _ from f0); have f1' := pw_cell_below hb (show W1.drew.cell? _ = _ from f1); have o3' := pw_cell_below hb (show W1.drew.cell? _ = _ from o3)))
    obtain ⟨e1, e2, e3, e4, e5, e6⟩ := elm (Kd.R_below R2 hb) i h0 h1 m hm
    go_wp2
    go_ret
    exact ⟨rfl, (rfin hB hg0 (below_step B2 hb) (Kd.R_below R2 hb) i h0 h1 m hm a1 opt).1⟩
  · rw [if_neg (by decide)] at ha
    obtain ⟨rfl, -⟩ := Prod.mk.inj ha
    obtain ⟨e1, e2, e3, e4, e5, e6⟩ := elm R1 i h0 h1 m hm
    go_enter Try.func49, Try.ntmps49
    go_upto_region 18 with (fail)
    generalize w.alloc (.cells #[.int .i64 3, .int .i64 day, .int .i64 id, .int .i64 opt] 47 (0, 0)) = W1 at *
    go_wp2
    go_ret
    exact ⟨rfl, (rfin2 hB hg0 B1 R1 i h0 h1 m hm opt).1⟩
  · rw [if_pos (.inr rfl), if_neg (by decide)] at ha
    have hop := option_some opt (w.alloc (.cells #[.int .i64 4, .int .i64 day, .int .i64 id, .int .i64 opt] 47 (0, 0)))
    rw [decide_eq_true (⟨hk0, hk1⟩ : 0 ≤ opt ∧ opt < 4)] at hop
    go_enter Try.func49, Try.ntmps49
    go_upto_region 9 with (go_at_call 59; refine hop.mono ?_; rintro e w2 ⟨rfl, hb⟩; have f0' := pw_cell_below hb f0; have f1' := pw_cell_below hb f1; have f3' := pw_cell_below hb f3; have o1' := pw_cell_below hb o1; have o2' := pw_cell_below hb o2; have o3' := pw_cell_below hb o3)
    have B2 := below_step B1 hb
    have hA := ha w2.drew (below_drew1 B2)
    have B3 := below_drew1 B2
    have R2 := Kd.R_drew (Kd.R_below R1 hb)
    clear ha hO hop
    go_region_held3 (fun w_ => w_.cell? ⟨w.heap.size, 0, none⟩ = some (.int .i64 4) ∧ w_.cell? ⟨w.heap.size, 1, none⟩ = some (.int .i64 day) ∧ w_.cell? ⟨w.heap.size, 3, none⟩ = some (.int .i64 opt) ∧ w_.cell? ⟨gO, 3, none⟩ = some v) (first | exact ⟨f0', f1', f3', o3'⟩ | exact ⟨f0'', f1'', f3'', o3''⟩ | go_keep) (first | (go_at_call 61; refine hA.mono ?_; rintro e w3 ⟨rfl, hb3⟩; have f0'' := pw_cell_below hb3 (show w2.drew.cell? _ = _ from f0'); have f1'' := pw_cell_below hb3 (show w2.drew.cell? _ = _ from f1'); have f3'' := pw_cell_below hb3 (show w2.drew.cell? _ = _ from f3'); have o3'' := pw_cell_below hb3 (show w2.drew.cell? _ = _ from o3')))
    obtain ⟨e1, e2, e3, e4, e5, e6⟩ := elm (Kd.R_below R2 hb3) i h0 h1 m hm
    go_wp2
    go_ret
    exact ⟨rfl, (rfin hB hg0 (below_step B3 hb3) (Kd.R_below R2 hb3) i h0 h1 m hm a1 opt).2⟩
  · rw [if_neg (by decide)] at ha
    obtain ⟨rfl, -⟩ := Prod.mk.inj ha
    obtain ⟨e1, e2, e3, e4, e5, e6⟩ := elm R1 i h0 h1 m hm
    go_enter Try.func49, Try.ntmps49
    go_upto_region 21 with (fail)
    generalize w.alloc (.cells #[.int .i64 5, .int .i64 day, .int .i64 id, .int .i64 opt] 47 (0, 0)) = W1 at *
    go_wp2
    go_ret
    exact ⟨rfl, (rfin2 hB hg0 B1 R1 i h0 h1 m hm opt).2.1⟩
  · rw [if_neg (by decide)] at ha
    obtain ⟨rfl, -⟩ := Prod.mk.inj ha
    have hop := option_some opt (w.alloc (.cells #[.int .i64 6, .int .i64 day, .int .i64 id, .int .i64 opt] 47 (0, 0)))
    rw [decide_eq_true (⟨hk0, hk1⟩ : 0 ≤ opt ∧ opt < 4)] at hop
    go_enter Try.func49, Try.ntmps49
    go_wp2_with (go_at_call 59; refine hop.mono ?_; rintro e w2 ⟨rfl, hb⟩; have R2 := Kd.R_below R1 hb; obtain ⟨e1, e2, e3, e4, e5, e6⟩ := elm R2 i h0 h1 m hm; have f0' := pw_cell_below hb f0; have f3' := pw_cell_below hb f3)
    go_ret
    exact ⟨rfl, (rfin2 hB hg0 (below_step B1 hb) R2 i h0 h1 m hm opt).2.2⟩
end Go.Proofs.Ytpfiecjacpbhkaa.D

/- insolvencyref33.File: what it comes to, by the contracts of Advance, opened, matterOf, required, change and AddDays. -/
namespace Go.Proofs.Ytpfiecjacpbhkaa.D
open Go.RowKit Go.Proofs.YtpfiecjacpbhkaaW.PrintWords Go.Proofs.YtpfiecjacpbhkaaW.PrintLast Go.Proofs.YtpfiecjacpbhkaaW.PrintMore
set_option linter.unusedVariables false
set_option linter.unusedSimpArgs false

def ref_File.tail (k : Nat) (day ans app : Int) (hs : List Int) (ms : List S50) (rl : List S52) (kind at_ id opt : Int) : Option Dk :=
  if kind < 1 ∨ 6 < kind then some (dkErr 1)
  else if ms.length < 4611686018427387904 then
    if kind = 1 then if (openF ms id).2 = 0 then some (day, ans, app, hs, (openF ms id).1, rl, 0) else some (dkErr (openF ms id).2)
    else if fnd id ms 0 < 0 then some (dkErr 11)
    else if (rd_T50 ms (fnd id ms 0)).f1 ≠ kind - 1 then some (dkErr 13)
    else if (kind = 4 ∨ kind = 6) ∧ (opt < 0 ∨ 4 ≤ opt) then some (dkErr 41)
    else (if kind = 2 ∨ kind = 4 then F.insolvencyref1_AddDays.f k at_ (if kind = 2 then ans else app) hs else some (0, 0)).bind fun ad =>
      if ad.2 ≠ 0 then some (dkErr ad.2)
      else if kind = 6 then if rl.length < 5864062014805 then some (day, ans, app, hs, ms.set (fnd id ms 0).toNat (rchgM (rd_T50 ms (fnd id ms 0)) kind ad.1 opt), rl ++ [⟨id, at_, opt⟩], 0) else none
      else some (day, ans, app, hs, ms.set (fnd id ms 0).toNat (rchgM (rd_T50 ms (fnd id ms 0)) kind ad.1 opt), rl, 0)
  else none
def ref_File.f (k : Nat) (a0 a1 a2 : Int) (l3 : List Int) (l4 : List S50) (kind at_ id opt : Int) : Option Dk :=
  (insolvencyref33_Advance.f k a0 a1 a2 l3 l4 at_).bind fun r => if r.2.2.2.2.2.2 = 0 then ref_File.tail k r.1 r.2.1 r.2.2.1 r.2.2.2.1 r.2.2.2.2.1 r.2.2.2.2.2.1 kind at_ id opt else some (dkErr r.2.2.2.2.2.2)
theorem ref_File.mono : ∀ a0 a1 a2 a3 a4 a5 a6 a7 a8 k, LeO (ref_File.f k a0 a1 a2 a3 a4 a5 a6 a7 a8) (ref_File.f (k + 1) a0 a1 a2 a3 a4 a5 a6 a7 a8) := by
  intro a0 a1 a2 a3 a4 a5 a6 a7 a8 k
  unfold ref_File.f ref_File.tail
  repeat' first
  | (with_reducible exact insolvencyref33_Advance.mono _ _ _ _ _ _ _)
  | (with_reducible exact F.insolvencyref1_AddDays.mono _ _ _ _)
  | (with_reducible exact LeO.refl _)
  | (with_reducible exact LeO.none _)
  | (with_reducible refine LeO.ite ?_ ?_)
  | (with_reducible refine LeO.bind ?_ (fun _ => ?_))

set_option maxHeartbeats 16000000 in
set_option maxRecDepth 100000 in
theorem rfile_walk (k : Nat) (d a p : Int) (v u : Value) (kind day id opt : Int) (r : Dk) (r' : Dk) (w : World)
    (hA : Calls Try.prog 27 #[.agg #[.int .i64 d, .int .i64 a, .int .i64 p, v, u], .int .i64 day] (filWorld w d a p v u kind day id opt) (FileEnd (filWorld w d a p v u kind day id opt) r))
    (h : (if r.2.2.2.2.2.2 = 0 then ref_File.tail k r.1 r.2.1 r.2.2.1 r.2.2.2.1 r.2.2.2.2.1 r.2.2.2.2.2.1 kind day id opt else some (dkErr r.2.2.2.2.2.2)) = some r') :
    Calls Try.prog 28 #[.agg #[.int .i64 d, .int .i64 a, .int .i64 p, v, u], .agg #[.int .i64 kind, .int .i64 day, .int .i64 id, .int .i64 opt]] w (FileEnd w r') := by
  have hu := Try.underlying47
  have hu2 := Try.underlying27
  have hu3 := Try.underlying30
  have hu4 := Try.underlying28
  have B0 := fil_below w d a p v u kind day id opt
  have K2 := fil_res w d a p v u kind day id opt
  have K1 := fil_file w d a p v u kind day id opt
  obtain ⟨r1, r2, r3, hs, ms, rl, r7⟩ := r
  go_enter Try.func28, Try.ntmps28
  go_upto_region 2 with (go_at_call 27; change Calls _ _ _ (filWorld w d a p v u kind day id opt) _; refine hA.mono ?_; rintro e w1 ⟨v3, v4, v5, rfl, h3, h4, h5, hb⟩; have K3 := blk_below K2 hb; have K4 := blk_below K1 hb; obtain ⟨A3, c3, rfl⟩ := Kd.R_slice h3; obtain ⟨A4, c4, rfl⟩ := Kd.R_slice h4; obtain ⟨A5, c5, rfl⟩ := Kd.R_slice h5)
  change Code.wp _ _ _ _ (w1.alloc (.cells #[.int .i64 r1, .int .i64 r2, .int .i64 r3, .slice A3 hs.length c3, .slice A4 ms.length c4] 30 (0, 0)))
  have KO := blk_new w1 (.cells #[.int .i64 r1, .int .i64 r2, .int .i64 r3, .slice A3 hs.length c3, .slice A4 ms.length c4] 30 (0, 0))
  have KZ := blk_alloc K3 (.cells #[.int .i64 r1, .int .i64 r2, .int .i64 r3, .slice A3 hs.length c3, .slice A4 ms.length c4] 30 (0, 0))
  have KF := blk_alloc K4 (.cells #[.int .i64 r1, .int .i64 r2, .int .i64 r3, .slice A3 hs.length c3, .slice A4 ms.length c4] 30 (0, 0))
  have R3 := Kd.R_alloc (Kd.R_lower h3 B0.size) (.cells #[.int .i64 r1, .int .i64 r2, .int .i64 r3, .slice A3 hs.length c3, .slice A4 ms.length c4] 30 (0, 0))
  have R4 := Kd.R_alloc (Kd.R_lower h4 B0.size) (.cells #[.int .i64 r1, .int .i64 r2, .int .i64 r3, .slice A3 hs.length c3, .slice A4 ms.length c4] 30 (0, 0))
  have R5 := Kd.R_alloc (Kd.R_lower h5 B0.size) (.cells #[.int .i64 r1, .int .i64 r2, .int .i64 r3, .slice A3 hs.length c3, .slice A4 ms.length c4] 30 (0, 0))
  have BW := below_alloc (below_step B0 hb) (.cells #[.int .i64 r1, .int .i64 r2, .int .i64 r3, .slice A3 hs.length c3, .slice A4 ms.length c4] 30 (0, 0))
  have n1 : w1.heap.size ≠ w.heap.size + 1 + 1 := Nat.ne_of_gt (blk_lt K3)
  have n2 : w1.heap.size ≠ w.heap.size + 1 := Nat.ne_of_gt (blk_lt K4)
  have n3 : w.heap.size + 1 ≠ w.heap.size + 1 + 1 := by omega
  have n4 : w.heap.size ≤ w.heap.size + 1 + 1 := by omega
  have n5 : w.heap.size ≤ w1.heap.size := Nat.le_trans n4 (Nat.le_of_lt (blk_lt K3))
  generalize w1.alloc (.cells #[.int .i64 r1, .int .i64 r2, .int .i64 r3, .slice A3 hs.length c3, .slice A4 ms.length c4] 30 (0, 0)) = W2 at *
  generalize w1.heap.size = gO at *
  generalize w.heap.size + 1 + 1 = gZ at *
  generalize w.heap.size + 1 = gB at *
  clear K1 K2 K3 K4 h3 h4 h5 hb hA B0 w1
  obtain ⟨z0, z1, z2, z3, z4⟩ := cells5 ⟨KZ⟩
  obtain ⟨x0, x1, x2, x3, x4⟩ := frz5 ⟨KZ⟩
  by_cases he : r7 = 0
  · rw [if_pos he] at h
    subst he
    obtain ⟨f0, f1, f2, f3⟩ := cells4 ⟨KF⟩
    obtain ⟨o0, o1, o2, o3, o4⟩ := cells5 ⟨KO⟩
    unfold ref_File.tail at h
    by_cases hk : kind < 1 ∨ 6 < kind
    · rw [if_pos hk] at h
      obtain rfl := Option.some.inj h
      clear h
      by_cases h1 : kind < 1
      · have e1 : decide (kind < 1) = true := decide_eq_true h1
        clear hk h1
        go_wp2
        refine bodyPost_ret (results_ctt rfl _ _ gZ 30 _ (0, 0) _ rfl (five_blk KZ _ _ _ _ _) Try.underlying30 rfl (by kernel_rfl)) rfl ?_
        exact end_err _ _ _ _ BW n4
      · have e1 : decide (kind < 1) = false := decide_eq_false h1
        have e2 : decide (6 < kind) = true := decide_eq_true (by omega)
        clear hk h1
        go_wp2
        refine bodyPost_ret (results_ctt rfl _ _ gZ 30 _ (0, 0) _ rfl (five_blk KZ _ _ _ _ _) Try.underlying30 rfl (by kernel_rfl)) rfl ?_
        exact end_err _ _ _ _ BW n4
    rw [if_neg hk] at h
    have e1 : decide (kind < 1) = false := decide_eq_false (by omega)
    have e2 : decide (6 < kind) = false := decide_eq_false (by omega)
    have hC := (Kd.R_reads' R4).2
    by_cases hl : ms.length < 4611686018427387904
    case neg => rw [if_neg hl] at h; cases h
    rw [if_pos hl] at h
    by_cases hk1 : kind = 1
    · rw [if_pos hk1] at h
      subst hk1
      by_cases ho : (openF ms id).2 = 0
      · rw [if_pos ho] at h
        obtain rfl := Option.some.inj h
        have hop := opened_ok gO r1 r2 r3 (.slice A3 hs.length c3) (.slice A4 ms.length c4) ms id w W2 BW n5 KO R4 ho
        clear h hk e1 e2 ho hl hC
        go_wp2_with (go_at_call 46; refine hop.mono ?_; rintro e w3 ⟨u3, rfl, KO3, R43, B3, hsame⟩; have nz := Kd.R_ne R4 KZ (by decide); have nf := Kd.R_ne R4 KF (by decide); have KZ3 := (hsame gZ (blk_lt KZ) (Ne.symm n1) nz).trans KZ; have KF3 := (hsame gB (blk_lt KF) (Ne.symm n2) nf).trans KF; have R33 := R_keep2 R3 hsame KO (by decide) (Kd.R_typed R4) (by decide); have R53 := R_keep2 R5 hsame KO (by decide) (Kd.R_typed R4) (by decide); obtain ⟨z0, z1, z2, z3, z4⟩ := cells5 ⟨KZ3⟩; obtain ⟨x0, x1, x2, x3, x4⟩ := frz5 ⟨KZ3⟩; obtain ⟨o0, o1, o2, o3, o4⟩ := cells5 ⟨KO3⟩; obtain ⟨f0, f1, f2, f3⟩ := cells4 ⟨KF3⟩; obtain ⟨A43, c43, rfl⟩ := Kd.R_slice R43)
        refine bodyPost_ret (results_ctt rfl _ _ gZ 30 _ (0, 0) _ rfl (five_blk KZ3 _ _ _ _ _) Try.underlying30 rfl (by kernel_rfl)) rfl ?_
        exact end_ok _ _ _ _ _ _ _ _ _ _ _ _ #[] B3 n4 KZ3 R33 R43 R53
      · rw [if_neg ho] at h
        obtain rfl := Option.some.inj h
        have hop := opened_err gO r1 r2 r3 (.slice A3 hs.length c3) A4 c4 ms id W2 hC.1 hl KO hC.2 ho
        have he2 : ((openF ms id).2 != 0) = true := by simpa using ho
        clear h hk e1 e2 ho hl hC
        generalize (openF ms id).2 = eo at *
        go_wp2_with (go_at_call 46; refine hop.mono ?_; rintro e w3 ⟨rfl, B3⟩; have KZ3 := blk_below KZ B3; obtain ⟨z0, z1, z2, z3, z4⟩ := cells5 ⟨KZ3⟩; obtain ⟨x0, x1, x2, x3, x4⟩ := frz5 ⟨KZ3⟩)
        refine bodyPost_ret (results_ctt rfl _ _ gZ 30 _ (0, 0) _ rfl (five_blk KZ3 _ _ _ _ _) Try.underlying30 rfl (by kernel_rfl)) rfl ?_
        exact end_err _ _ _ _ (below_step BW B3) n4
    rw [if_neg hk1] at h
    have e3 : (kind == 1) = false := by simpa using hk1
    have hf := matterOf_calls r1 r2 r3 (.slice A3 hs.length c3) A4 c4 ms id W2 hl hC.2
    have hq := fnd_lt id ms 0
    generalize fnd id ms 0 = q at *
    by_cases hq0 : q < 0
    · rw [if_pos hq0] at h
      obtain rfl := Option.some.inj h
      have e4 : decide (q < 0) = true := decide_eq_true hq0
      clear h hk hk1 hl hC hq hq0
      go_wp2_with (go_at_call 47; refine hf.mono ?_; rintro e w3 ⟨rfl, B3⟩; have KZ3 := blk_below KZ B3; obtain ⟨z0, z1, z2, z3, z4⟩ := cells5 ⟨KZ3⟩; obtain ⟨x0, x1, x2, x3, x4⟩ := frz5 ⟨KZ3⟩)
      refine bodyPost_ret (results_ctt rfl _ _ gZ 30 _ (0, 0) _ rfl (five_blk KZ3 _ _ _ _ _) Try.underlying30 rfl (by kernel_rfl)) rfl ?_
      exact end_err _ _ _ _ (below_step BW B3) n4
    rw [if_neg hq0] at h
    have e4 : decide (q < 0) = false := decide_eq_false hq0
    have hqn : q < (ms.length : Int) := by omega
    have hq1 : 0 ≤ q := by omega
    have p1 : (0 ≤ q) = True := eq_true hq1
    have p2 : (q < (ms.length : Int)) = True := eq_true hqn
    obtain ⟨g4, c4', eq4, -, hg4, -⟩ := Kd.R_form R4 (by omega)
    injection eq4 with eA _ eC
    subst eA
    subst eC
    clear hq hq0 hC hl
    have hreq := fun W => required_calls kind W (by omega)
    by_cases hst : (rd_T50 ms q).f1 ≠ kind - 1
    · rw [if_pos hst] at h
      obtain rfl := Option.some.inj h
      have hd8 : ((rd_T50 ms q).f1 != kind - 1) = true := by simpa using hst
      clear h
      go_upto_region 12 with (go_at_call 47; refine hf.mono ?_; rintro e w3 ⟨rfl, B3⟩; have KF3' := blk_below KF B3; obtain ⟨f0, f1, f2, f3⟩ := cells4 ⟨KF3'⟩)
      have KZ3 := blk_below KZ B3
      have KF3 := blk_below KF B3
      have KO3 := blk_below KO B3
      have R43 := Kd.R_below R4 B3
      have hc := (elm R43 q hq1 hqn _ rfl).1
      clear f0 f1 f2 f3 o0 o1 o2 o3 o4 z0 z1 z2 z3 z4 x0 x1 x2 x3 x4 hst
      generalize (rd_T50 ms q).f1 = stt at *
      obtain ⟨f0, f1, f2, f3⟩ := cells4 ⟨KF3⟩
      obtain ⟨o0, o1, o2, o3, o4⟩ := cells5 ⟨KO3⟩
      go_region_held3 (fun w_ => w_.cell? ⟨gB, 0, none⟩ = some (.int .i64 kind) ∧ w_.cell? ⟨gO, 4, none⟩ = some (.slice (some ⟨g4, 0, none⟩) ms.length c4) ∧ w_.cell? ⟨g4, q.toNat * 5 + 1, none⟩ = some (.int .i64 stt)) (first | exact ⟨f0, o4, hc⟩ | exact ⟨f0', o4', hc'⟩ | go_keep)
        (first | (go_at_call 48; refine (hreq _).mono ?_; rintro e w4 ⟨rfl, B4⟩; have f0' := pw_cell_below B4 (show w3.drew.cell? _ = _ from f0); have o4' := pw_cell_below B4 (show w3.drew.cell? _ = _ from o4); have hc' := pw_cell_below B4 (show w3.drew.cell? _ = _ from hc)))
      have KZ4 := blk_below (blk_drew KZ3) B4
      obtain ⟨z0, z1, z2, z3, z4⟩ := cells5 ⟨KZ4⟩
      obtain ⟨x0, x1, x2, x3, x4⟩ := frz5 ⟨KZ4⟩
      go_wp2
      refine bodyPost_ret (results_ctt rfl _ _ gZ 30 _ (0, 0) _ rfl (five_blk KZ4 _ _ _ _ _) Try.underlying30 rfl (by kernel_rfl)) rfl ?_
      exact end_err _ _ _ _ (below_step (below_drew1 (below_step BW B3)) B4) n4
    rw [if_neg hst] at h
    have hst' : (rd_T50 ms q).f1 = kind - 1 := by omega
    clear hst
    have hch : ∀ W, Below W2.heap.size W2 W → Calls Try.prog 49 #[.pointer (some ⟨gO, 0, none⟩), .pointer (some ⟨g4, q.toNat * 5, none⟩), .agg #[.int .i64 kind, .int .i64 day, .int .i64 id, .int .i64 opt]] W fun e w' => ∃ c, e = .returned (.int .i64 c) ∧ (∀ k, k < W.heap.size → k ≠ g4 → w'.heap[k]? = W.heap[k]?) ∧
        (c ≠ 0 ∧ r' = dkErr c ∧ Below W.heap.size W w' ∨ c = 0 ∧ ∃ x, r' = (r1, r2, r3, hs, ms.set q.toNat x, if kind = 6 then rl ++ [⟨id, day, opt⟩] else rl, 0) ∧ (kind = 6 → rl.length < 5864062014805) ∧
          Kd.R k50 50 w' w.heap.size (fun _ => True) (.slice (some ⟨g4, 0, none⟩) ms.length c4) (ms.set q.toNat x) ∧ Below w.heap.size w w') := by
      intro W hW
      have R4W := Kd.R_below R4 hW
      have KOW := blk_below KO hW
      by_cases hop : (kind = 4 ∨ kind = 6) ∧ (opt < 0 ∨ 4 ≤ opt)
      · rw [if_pos hop] at h
        obtain rfl := Option.some.inj h
        refine (rchange_opt g4 (q.toNat * 5) gO kind day id opt W hop.1 (by omega)).mono ?_
        rintro e w' ⟨rfl, hb⟩
        exact ⟨41, rfl, fun k hk _ => hb.block k hk, .inl ⟨by decide, rfl, hb⟩⟩
      rw [if_neg hop] at h
      obtain ⟨ad, had, h⟩ := Option.bind_eq_some_iff.mp h
      have hCh := (Kd.R_reads' R3).2
      have hAdd : kind = 2 ∨ kind = 4 → RAddAt W day (if kind = 2 then r2 else r3) (.slice A3 hs.length c3) ad := by
        intro h24 W1 hW1
        rw [if_pos h24] at had
        exact (F.insolvencyref1_AddDays.calls k day (if kind = 2 then r2 else r3) A3 c3 hs ad.1 ad.2 W1 (Kd.C_below (Kd.C_below hCh.2 hW) hW1) hCh.1 had).mono (fun e w' ⟨h1, h2⟩ => ⟨h1, h2.below⟩)
      by_cases ha : ad.2 ≠ 0
      · rw [if_pos ha] at h
        obtain rfl := Option.some.inj h
        have h24 : kind = 2 ∨ kind = 4 := by
          by_cases hh : kind = 2 ∨ kind = 4
          · exact hh
          · rw [if_neg hh] at had
            obtain rfl := Option.some.inj had
            exact absurd rfl ha
        refine (rchange_add g4 (q.toNat * 5) gO kind day id opt r1 r2 r3 (.slice A3 hs.length c3) _ ad W (by omega) KOW (hAdd h24) ha).mono ?_
        rintro e w' ⟨rfl, hb⟩
        exact ⟨ad.2, rfl, fun k hk _ => hb.block k hk, .inl ⟨ha, rfl, hb⟩⟩
      rw [if_neg ha] at h
      have ha0 : ad.2 = 0 := by omega
      have hA2 : if kind = 2 ∨ kind = 4 then RAddAt W day (if kind = 2 then r2 else r3) (.slice A3 hs.length c3) ad else ad = (0, 0) := by
        by_cases hh : kind = 2 ∨ kind = 4
        · rw [if_pos hh]; exact hAdd hh
        · rw [if_neg hh] at had ⊢
          exact (Option.some.inj had).symm
      refine (rchange_ok g4 gO q c4 ms (fun _ => True) kind day id opt r1 r2 r3 (.slice A3 hs.length c3) _ ad w W (below_step BW hW) hq1 hqn (by omega) KOW R4W hA2 ha0).mono ?_
      rintro e w' ⟨rfl, hR, hB, hs2⟩
      by_cases h6 : kind = 6
      · rw [if_pos h6] at h
        by_cases hrl : rl.length < 5864062014805
        · rw [if_pos hrl] at h
          obtain rfl := Option.some.inj h
          exact ⟨0, rfl, hs2, .inr ⟨rfl, _, by rw [if_pos h6], fun _ => hrl, hR, hB⟩⟩
        · rw [if_neg hrl] at h; cases h
      · rw [if_neg h6] at h
        obtain rfl := Option.some.inj h
        exact ⟨0, rfl, hs2, .inr ⟨rfl, _, by rw [if_neg h6], fun h => absurd h h6, hR, hB⟩⟩
    clear h hk hk1
    have hd8 : ((kind - 1) != (kind - 1)) = false := by simp
    go_upto_region 12 with (go_at_call 47; refine hf.mono ?_; rintro e w3a ⟨rfl, B3a⟩; have KF3' := blk_below KF B3a; obtain ⟨f0, f1, f2, f3⟩ := cells4 ⟨KF3'⟩)
    have KF3a := blk_below KF B3a
    have KO3a := blk_below KO B3a
    have hc := (elm (Kd.R_below R4 B3a) q hq1 hqn _ rfl).1
    rw [hst'] at hc
    clear f0 f1 f2 f3 o0 o1 o2 o3 o4 z0 z1 z2 z3 z4 x0 x1 x2 x3 x4
    obtain ⟨f0, f1, f2, f3⟩ := cells4 ⟨KF3a⟩
    obtain ⟨o0, o1, o2, o3, o4⟩ := cells5 ⟨KO3a⟩
    generalize hkm : kind - 1 = km at *
    go_region_held3 (fun w_ => w_.cell? ⟨gB, 0, none⟩ = some (.int .i64 kind) ∧ w_.cell? ⟨gO, 4, none⟩ = some (.slice (some ⟨g4, 0, none⟩) ms.length c4) ∧ w_.cell? ⟨g4, q.toNat * 5 + 1, none⟩ = some (.int .i64 km)) (first | exact ⟨f0, o4, hc⟩ | exact ⟨f0', o4', hc'⟩ | go_keep)
      (first | (go_at_call 48; refine (hreq _).mono ?_; rintro e w3 ⟨rfl, B4a⟩; have f0' := pw_cell_below B4a (show w3a.drew.cell? _ = _ from f0); have o4' := pw_cell_below B4a (show w3a.drew.cell? _ = _ from o4); have hc' := pw_cell_below B4a (show w3a.drew.cell? _ = _ from hc)))
    have B3 : Below W2.heap.size W2 w3 := below_step (below_drew1 B3a) B4a
    clear f0 f1 f2 f3 o0 o1 o2 o3 o4 hc f0' o4' hc' KF3a KO3a B3a B4a
    have KZ3 := blk_below KZ B3
    have KF3 := blk_below KF B3
    have KO3 := blk_below KO B3
    obtain ⟨f0, f1, f2, f3⟩ := cells4 ⟨KF3⟩
    obtain ⟨o0, o1, o2, o3, o4⟩ := cells5 ⟨KO3⟩
    go_upto_region 9 with (fail)
    have R33 := Kd.R_below R3 B3
    have R43 := Kd.R_below R4 B3
    have R53 := Kd.R_below R5 B3
    have hcal := hch w3.drew (below_drew1 B3)
    clear hch hkm hd8
    have nF : gB ≠ g4 := fun he => Kd.R_ne R4 KF (by decide) (by rw [he]; simp [Value.ownBlock])
    have nO : gO ≠ g4 := fun he => Kd.R_ne R4 KO (by decide) (by rw [he]; simp [Value.ownBlock])
    have nZ : gZ ≠ g4 := fun he => Kd.R_ne R4 KZ (by decide) (by rw [he]; simp [Value.ownBlock])
    go_region_held3 (fun w_ => w_.cell? ⟨gB, 0, none⟩ = some (.int .i64 kind) ∧ w_.cell? ⟨gB, 1, none⟩ = some (.int .i64 day) ∧ w_.cell? ⟨gB, 2, none⟩ = some (.int .i64 id) ∧ w_.cell? ⟨gB, 3, none⟩ = some (.int .i64 opt) ∧ w_.cell? ⟨gO, 4, none⟩ = some (.slice (some ⟨g4, 0, none⟩) ms.length c4)) (first | exact ⟨f0, f1, f2, f3, o4⟩ | exact ⟨f0', f1', f2', f3', o4'⟩ | go_keep)
      (first | (go_at_call 49; refine hcal.mono ?_; rintro e w4 ⟨c, rfl, hs4, hcc⟩; have KF4 := (hs4 gB (blk_lt (blk_drew KF3)) nF).trans (blk_drew KF3); have KO4 := (hs4 gO (blk_lt (blk_drew KO3)) nO).trans (blk_drew KO3); have KZ4 := (hs4 gZ (blk_lt (blk_drew KZ3)) nZ).trans (blk_drew KZ3); obtain ⟨f0', f1', f2', f3'⟩ := cells4 ⟨KF4⟩; obtain ⟨o0', o1', o2', o3', o4'⟩ := cells5 ⟨KO4⟩))
    obtain ⟨z0, z1, z2, z3, z4⟩ := cells5 ⟨KZ4⟩
    obtain ⟨x0, x1, x2, x3, x4⟩ := frz5 ⟨KZ4⟩
    clear f0 f1 f2 f3 o0 o1 o2 o3 o4 p1 p2
    rcases hcc with ⟨hc0, rfl, hb4⟩ | ⟨rfl, x, hr', hrl, R44, B4⟩
    · have he2 : (c != 0) = true := by simpa using hc0
      clear hc0
      go_wp2
      refine bodyPost_ret (results_ctt rfl _ _ gZ 30 _ (0, 0) _ rfl (five_blk KZ4 _ _ _ _ _) Try.underlying30 rfl (by kernel_rfl)) rfl ?_
      exact end_err _ _ _ _ (below_step (below_drew1 (below_step BW B3)) hb4) n4
    obtain ⟨gc, hgc⟩ := Kd.R_typed (Kd.R_drew R43) g4 (by simp [Value.ownBlock])
    have R34 := R_keep2 (u := .slice none 0 0) (t2 := 0) (Kd.R_drew R33) (fun k h1 h2 _ => hs4 k h1 h2) hgc (by decide) (fun k hk => by simp [Value.ownBlock] at hk) (by decide)
    have R54 := R_keep2 (u := .slice none 0 0) (t2 := 0) (Kd.R_drew R53) (fun k h1 h2 _ => hs4 k h1 h2) hgc (by decide) (fun k hk => by simp [Value.ownBlock] at hk) (by decide)
    by_cases h6 : kind = 6
    · subst h6
      rw [if_pos rfl] at hr'
      subst hr'
      have hrl := hrl rfl
      have NF := Kd.R_ne R54 KF4 (by decide)
      have NO := Kd.R_ne R54 KO4 (by decide)
      have NZ := Kd.R_ne R54 KZ4 (by decide)
      go_wp2_with (first | ((with_reducible refine gate_builtin (b := .append) (xs := #[.tmp 69, .tmp 77]) rfl ?_); at_builtin; refine Kd.R_append k52 (w0 := w) w.heap.size rfl (.tmp 69) (.tmp 77) 32 52 (.agg #[(.int .i64 0), (.int .i64 0), (.int .i64 0)]) 24 rfl Try.underlying32 info52 rfl (by decide) (by omega) _ rl (⟨id, day, opt⟩ : S52) [.int .i64 id, .int .i64 day, .int .i64 opt] (fun _ => True) (fun _ => False) rfl rfl ?aP (fun _ hk => hk.elim) ?aF ?aO ?aB ?aS ?aL ?_; (case aP => exact k52_mkM _ _ _ (⟨id, day, opt⟩ : S52)); (case aB => exact B4); (case aF => exact (fun _ _ => trivial)); (case aO => exact R54); (case aS => exact B4.size); (case aL => omega); intro v5 w5 ho5 hb5 hgr hat; change w4.grownBy w5 (Value.slice A5 rl.length c5).ownBlock at hgr; obtain ⟨A6, c6, rfl⟩ := Kd.R_slice ho5; have KZ5 := blk_grown KZ4 hgr NZ; have KO5 := blk_grown KO4 hgr NO; obtain ⟨z0, z1, z2, z3, z4⟩ := cells5 ⟨KZ5⟩; obtain ⟨x0, x1, x2, x3, x4⟩ := frz5 ⟨KZ5⟩; obtain ⟨o0', o1', o2', o3', o4'⟩ := cells5 ⟨KO5⟩))
      refine bodyPost_ret (results_ctt rfl _ _ gZ 30 _ (0, 0) _ rfl (five_blk KZ5 _ _ _ _ _) Try.underlying30 rfl (by kernel_rfl)) rfl ?_
      simp only [List.length_append, List.length_cons, List.length_nil, Nat.zero_add] at ho5
      have R35 := Kd.R_over' (v := .slice A5 rl.length c5) R34 (Kd.R_typed R54) (by decide) hgr
      have R45 := Kd.R_over' (v := .slice A5 rl.length c5) R44 (Kd.R_typed R54) (by decide) hgr
      exact end_ok _ _ _ _ _ _ _ _ _ _ _ _ #[] hb5 n4 KZ5 R35 R45 (Kd.R_mono ho5 (fun _ _ => trivial))
    · have e6 : (kind == 6) = false := by simpa using h6
      rw [if_neg h6] at hr'
      subst hr'
      clear h6 hrl
      go_wp2
      refine bodyPost_ret (results_ctt rfl _ _ gZ 30 _ (0, 0) _ rfl (five_blk KZ4 _ _ _ _ _) Try.underlying30 rfl (by kernel_rfl)) rfl ?_
      exact end_ok _ _ _ _ _ _ _ _ _ _ _ _ #[] B4 n4 KZ4 R34 R44 R54
  · rw [if_neg he] at h
    obtain rfl := Option.some.inj h
    have he2 : (r7 != 0) = true := by simpa using he
    clear he h
    go_wp2
    refine bodyPost_ret (results_ctt rfl _ _ gZ 30 _ (0, 0) _ rfl (five_blk KZ _ _ _ _ _) Try.underlying30 rfl (by kernel_rfl)) rfl ?_
    exact end_err _ _ _ _ BW n4

theorem ref_File.calls (k : Nat) (a0_0 : Int) (a0_1 : Int) (a0_2 : Int) (A0_3 : Option Addr) (c0_3 : Nat) (l0_3 : List Int) (A0_4 : Option Addr) (c0_4 : Nat) (l0_4 : List S50) (a1_0 a1_1 a1_2 a1_3 : Int) (r1 : Int) (r2 : Int) (r3 : Int) (r4 : List Int) (r5 : List S50) (r6 : List S52) (r7 : Int) (w : World) (hr0_3 : Kd.C (Kd.int .i64) w A0_3 l0_3.length l0_3) (hc0_3 : l0_3.length ≤ c0_3) (hr0_4 : Kd.C k50 w A0_4 l0_4.length l0_4) (hc0_4 : l0_4.length ≤ c0_4) (h : ref_File.f k a0_0 a0_1 a0_2 l0_3 l0_4 a1_0 a1_1 a1_2 a1_3 = some (r1, r2, r3, r4, r5, r6, r7)) :
    Calls Try.prog 28 #[.agg #[.int .i64 a0_0, .int .i64 a0_1, .int .i64 a0_2, .slice A0_3 l0_3.length c0_3, .slice A0_4 l0_4.length c0_4], .agg #[.int .i64 a1_0, .int .i64 a1_1, .int .i64 a1_2, .int .i64 a1_3]] w fun e w' => ∃ v3_ v4_ v5_ : Value, e = .returned (.tuple #[.agg #[.int .i64 r1, .int .i64 r2, .int .i64 r3, v3_, v4_], v5_, .int .i64 r7]) ∧ Kd.R (Kd.int .i64) 3 w' w.heap.size (fun _ => True) v3_ r4 ∧ Kd.R k50 50 w' w.heap.size (fun _ => True) v4_ r5 ∧ Kd.R k52 52 w' w.heap.size (fun _ => True) v5_ r6 ∧ Below w.heap.size w w' := by
  unfold ref_File.f at h
  obtain ⟨r, hr, h⟩ := Option.bind_eq_some_iff.mp h
  have hb := fil_below w a0_0 a0_1 a0_2 (.slice A0_3 l0_3.length c0_3) (.slice A0_4 l0_4.length c0_4) a1_0 a1_1 a1_2 a1_3
  have hA := insolvencyref33_Advance.calls k a0_0 a0_1 a0_2 A0_3 c0_3 l0_3 A0_4 c0_4 l0_4 a1_1 r.1 r.2.1 r.2.2.1 r.2.2.2.1 r.2.2.2.2.1 r.2.2.2.2.2.1 r.2.2.2.2.2.2 _ (Kd.C_below hr0_3 hb) hc0_3 (Kd.C_below hr0_4 hb) hc0_4 hr
  exact rfile_walk k a0_0 a0_1 a0_2 _ _ a1_0 a1_1 a1_2 a1_3 r (r1, r2, r3, r4, r5, r6, r7) w hA h
end Go.Proofs.Ytpfiecjacpbhkaa.D

/- insolvencyref33.PlayDocket: the walk by hand. The definition is as_ a program of this session's printed it. -/
namespace Go.Proofs.Ytpfiecjacpbhkaa.D
open Go.RowKit Go.Proofs.YtpfiecjacpbhkaaW.PrintWords Go.Proofs.YtpfiecjacpbhkaaW.PrintLast Go.Proofs.YtpfiecjacpbhkaaW.PrintMore
set_option linter.unusedVariables false
set_option linter.unusedSimpArgs false

def insolvencyref33_PlayDocket.l0 : Nat → List (S47) → List (S52) → Int → Int → Int → Int → List Int → List (S50) → Option (Int × Int × Int × List Int × (List (S50)) × (List (S52)) × Int × Int)
 | 0, _, _, _, _, _, _, _, _ => none
 | k + 1, x2, x12, x13, x662000, x662001, x662002, x662003, x662004 => if x13 < (x2.length : Int) then (if 0 ≤ x13 then ((ref_File.f k x662000 x662001 x662002 x662003 x662004 ((rd_T47 x2 x13).f0) ((rd_T47 x2 x13).f1) ((rd_T47 x2 x13).f2) ((rd_T47 x2 x13).f3)).bind fun bt663 => (if bt663.2.2.2.2.2.2 = 0 then (if x12.length + bt663.2.2.2.2.2.1.length < 5864062014805 then (insolvencyref33_PlayDocket.l0 k x2 (x12 ++ bt663.2.2.2.2.2.1) (wrap64 (x13 + 1)) bt663.1 bt663.2.1 bt663.2.2.1 bt663.2.2.2.1 bt663.2.2.2.2.1) else (none)) else (some (0, 0, 0, ([] : List Int), ([] : List (S50)), ([] : List (S52)), x13, bt663.2.2.2.2.2.2)))) else (none)) else (some (x662000, x662001, x662002, x662003, x662004, x12, (-1), 0))
def insolvencyref33_PlayDocket.f (k : Nat) (a0 : Int) (a1_0 : Int) (a1_1 : Int) (l1_2 : List Int) (l2 : List (S47)) : Option (Int × Int × Int × List Int × (List (S50)) × (List (S52)) × Int × Int) := (insolvencyref33_NewDocket.f a0 a1_0 a1_1 l1_2).bind fun bt651 => (if bt651.2.2.2.2.2 = 0 then (insolvencyref33_PlayDocket.l0 k l2 ([] : List (S52)) 0 bt651.1 bt651.2.1 bt651.2.2.1 bt651.2.2.2.1 bt651.2.2.2.2.1) else (some (0, 0, 0, ([] : List Int), ([] : List (S50)), ([] : List (S52)), (-1), bt651.2.2.2.2.2)))
theorem insolvencyref33_PlayDocket.mono_l : ∀ k, (∀ y0 y1 y2 y3 y4 y5 y6 y7, LeO (insolvencyref33_PlayDocket.l0 k y0 y1 y2 y3 y4 y5 y6 y7) (insolvencyref33_PlayDocket.l0 (k + 1) y0 y1 y2 y3 y4 y5 y6 y7))
 | 0 => fun _ _ _ _ _ _ _ _ r h => by simp [insolvencyref33_PlayDocket.l0] at h
 | k + 1 => by
  have ih0 := insolvencyref33_PlayDocket.mono_l k
  ·intro y0 y1 y2 y3 y4 y5 y6 y7
   unfold insolvencyref33_PlayDocket.l0
   repeat' first
   | (with_reducible exact ih0 _ _ _ _ _ _ _ _)
   | (with_reducible exact ref_File.mono _ _ _ _ _ _ _ _ _ _)
   | (with_reducible exact LeO.refl _)
   | (with_reducible exact LeO.none _)
   | (with_reducible refine LeO.ite ?_ ?_)
   | (with_reducible refine LeO.bind ?_ (fun _ => ?_))
   | exact ih0 _ _ _ _ _ _ _ _
   | exact ref_File.mono _ _ _ _ _ _ _ _ _ _
   | exact LeO.none _
   | refine LeO.ite ?_ ?_
   | refine LeO.bind ?_ (fun _ => ?_)
theorem insolvencyref33_PlayDocket.mono : ∀ a0 a1 a2 a3 a4 k, LeO (insolvencyref33_PlayDocket.f k a0 a1 a2 a3 a4) (insolvencyref33_PlayDocket.f (k + 1) a0 a1 a2 a3 a4) := by
 intro a0 a1 a2 a3 a4 k
 have ih0 := insolvencyref33_PlayDocket.mono_l k
 unfold insolvencyref33_PlayDocket.f
 repeat' first
   | (with_reducible exact ih0 _ _ _ _ _ _ _ _)
   | (with_reducible exact ref_File.mono _ _ _ _ _ _ _ _ _ _)
   | (with_reducible exact LeO.refl _)
   | (with_reducible exact LeO.none _)
   | (with_reducible refine LeO.ite ?_ ?_)
   | (with_reducible refine LeO.bind ?_ (fun _ => ?_))
   | exact ih0 _ _ _ _ _ _ _ _
   | exact ref_File.mono _ _ _ _ _ _ _ _ _ _
   | exact LeO.none _
   | refine LeO.ite ?_ ?_
   | refine LeO.bind ?_ (fun _ => ?_)
structure PSt (w W : World) (gO gZ : Nat) (d a p : Int) (v3 v4 v5 : Value) (hs : List Int) (ms : List S50) (rl : List S52) : Prop where
  b : Below w.heap.size w W
  o : W.heap[gO]? = some (.cells #[.int .i64 d, .int .i64 a, .int .i64 p, v3, v4] 30 (0, 0))
  z : W.heap[gZ]? = some (.cells #[.int .i64 0, .int .i64 0, .int .i64 0, .slice none 0 0, .slice none 0 0] 30 (0, 0))
  r3 : Kd.R (Kd.int .i64) 3 W w.heap.size (fun _ => True) v3 hs
  r4 : Kd.R k50 50 W w.heap.size (fun _ => True) v4 ms
  r5 : Kd.R k52 52 W w.heap.size (fun _ => True) v5 rl
section
variable {w W W' : World} {gO gZ : Nat} {d a p : Int} {v3 v4 v5 : Value} {hs : List Int} {ms : List S50} {rl : List S52}
theorem PSt.below (h : PSt w W gO gZ d a p v3 v4 v5 hs ms rl) (hb : Below W.heap.size W W') : PSt w W' gO gZ d a p v3 v4 v5 hs ms rl :=
  ⟨below_step h.b hb, blk_below h.o hb, blk_below h.z hb, Kd.R_below h.r3 hb, Kd.R_below h.r4 hb, Kd.R_below h.r5 hb⟩
theorem PSt.turn {d' a' p' : Int} {v3' v4' : Value} {hs' : List Int} {ms' : List S50} (h : PSt w W gO gZ d a p v3 v4 v5 hs ms rl) (hO : w.heap.size ≤ gO) (hn : gZ ≠ gO)
    (h3 : Kd.R (Kd.int .i64) 3 W w.heap.size (fun _ => True) v3' hs') (h4 : Kd.R k50 50 W w.heap.size (fun _ => True) v4' ms') : PSt w (five W gO (.int .i64 d') (.int .i64 a') (.int .i64 p') v3' v4') gO gZ d' a' p' v3' v4' v5 hs' ms' rl :=
  ⟨five_below h.b hO _ _ _ _ _, five_blk h.o _ _ _ _ _, by
      unfold five
      exact blk_far (p := ⟨gO, 4, none⟩) (blk_far (p := ⟨gO, 3, none⟩) (blk_far (p := ⟨gO, 2, none⟩) (blk_far (p := ⟨gO, 1, none⟩) (blk_far (p := ⟨gO, 0, none⟩) h.z hn _) hn _) hn _) hn _) hn _,
    five_R h3 h.o (by decide) _ _ _ _ _, five_R h4 h.o (by decide) _ _ _ _ _, five_R h.r5 h.o (by decide) _ _ _ _ _⟩
theorem PSt.other {gN : Nat} {y0 y1 y2 y3 y4 : Value} (h : PSt w W gO gZ d a p v3 v4 v5 hs ms rl) (hN : W.heap[gN]? = some (.cells #[y0, y1, y2, y3, y4] 30 (0, 0))) (h1 : gO ≠ gN) (h2 : gZ ≠ gN) (h3 : w.heap.size ≤ gN) (x0 x1 x2 x3 x4 : Value) :
    PSt w (five W gN x0 x1 x2 x3 x4) gO gZ d a p v3 v4 v5 hs ms rl := by
  refine ⟨five_below h.b h3 _ _ _ _ _, ?_, ?_, five_R h.r3 hN (by decide) _ _ _ _ _, five_R h.r4 hN (by decide) _ _ _ _ _, five_R h.r5 hN (by decide) _ _ _ _ _⟩
  · unfold five
    exact blk_far (p := ⟨gN, 4, none⟩) (blk_far (p := ⟨gN, 3, none⟩) (blk_far (p := ⟨gN, 2, none⟩) (blk_far (p := ⟨gN, 1, none⟩) (blk_far (p := ⟨gN, 0, none⟩) h.o h1 _) h1 _) h1 _) h1 _) h1 _
  · unfold five
    exact blk_far (p := ⟨gN, 4, none⟩) (blk_far (p := ⟨gN, 3, none⟩) (blk_far (p := ⟨gN, 2, none⟩) (blk_far (p := ⟨gN, 1, none⟩) (blk_far (p := ⟨gN, 0, none⟩) h.z h2 _) h2 _) h2 _) h2 _) h2 _
/-- The rulings' row has grown. -/
theorem PSt.app {v6 : Value} {l2 : List S52} (h : PSt w W gO gZ d a p v3 v4 v5 hs ms rl) (ho : Kd.R k52 52 W' w.heap.size (fun _ => True) v6 l2) (hb : Below w.heap.size w W') (hg : W.grownBy W' v5.ownBlock) : PSt w W' gO gZ d a p v3 v4 v6 hs ms l2 :=
  ⟨hb, blk_grown h.o hg (Kd.R_ne h.r5 h.o (by decide)), blk_grown h.z hg (Kd.R_ne h.r5 h.z (by decide)), Kd.R_over' (v := v5) h.r3 (Kd.R_typed h.r5) (by decide) hg, Kd.R_over' (v := v5) h.r4 (Kd.R_typed h.r5) (by decide) hg, ho⟩
end
def plyWorld (w : World) (x y : Int) (v : Value) : World :=
  (w.alloc (.cells #[.int .i64 x, .int .i64 y, v] 27 (0, 0))).alloc (.cells #[.int .i64 0, .int .i64 0, .int .i64 0, .slice none 0 0, .slice none 0 0] 30 (0, 0))
theorem plyW_below (w : World) (x y : Int) (v : Value) : Below w.heap.size w (plyWorld w x y v) := by
  unfold plyWorld
  exact below_alloc (below_alloc (Below.refl _ _) _) _
theorem plyW_res (w : World) (x y : Int) (v : Value) : (plyWorld w x y v).heap[w.heap.size + 1]? = some (.cells #[.int .i64 0, .int .i64 0, .int .i64 0, .slice none 0 0, .slice none 0 0] 30 (0, 0)) := by
  have := blk_new (w.alloc (.cells #[.int .i64 x, .int .i64 y, v] 27 (0, 0))) (.cells #[.int .i64 0, .int .i64 0, .int .i64 0, .slice none 0 0, .slice none 0 0] 30 (0, 0))
  simpa [plyWorld] using this

set_option maxHeartbeats 16000000 in
set_option maxRecDepth 100000 in
theorem insolvencyref33_PlayDocket.calls (k : Nat) (a0 : Int) (a1_0 : Int) (a1_1 : Int) (A1_2 : Option Addr) (c1_2 : Nat) (l1_2 : List Int) (A2 : Option Addr) (c2 : Nat) (l2 : List S47) (r1 : Int) (r2 : Int) (r3 : Int) (r4 : List Int) (r5 : List S50) (r6 : List S52) (r7 : Int) (r8 : Int) (w : World) (hr1_2 : Kd.C (Kd.int .i64) w A1_2 l1_2.length l1_2) (hc1_2 : l1_2.length ≤ c1_2) (hr2 : Kd.C k47 w A2 l2.length l2) (hc2 : l2.length ≤ c2) (h : insolvencyref33_PlayDocket.f k a0 a1_0 a1_1 l1_2 l2 = some (r1, r2, r3, r4, r5, r6, r7, r8)) :
    Calls Try.prog 31 #[.int .i64 a0, .agg #[.int .i64 a1_0, .int .i64 a1_1, .slice A1_2 l1_2.length c1_2], .slice A2 l2.length c2] w fun e w' => ∃ v3_ v4_ v5_ : Value, e = .returned (.tuple #[.agg #[.int .i64 r1, .int .i64 r2, .int .i64 r3, v3_, v4_], v5_, .int .i64 r7, .int .i64 r8]) ∧ Kd.R (Kd.int .i64) 3 w' w.heap.size (fun _ => True) v3_ r4 ∧ Kd.R k50 50 w' w.heap.size (fun _ => True) v4_ r5 ∧ Kd.R k52 52 w' w.heap.size (fun _ => True) v5_ r6 ∧ Below w.heap.size w w' := by
  have hu := Try.underlying30
  have hu2 := Try.underlying47
  have hu3 := Try.underlying43
  have hu4 := Try.underlying27
  unfold insolvencyref33_PlayDocket.f at h
  obtain ⟨⟨n1, n2, n3, n4, n5, n6⟩, hN, h⟩ := Option.bind_eq_some_iff.mp h
  have B0 := plyW_below w a1_0 a1_1 (.slice A1_2 l1_2.length c1_2)
  have K0 := plyW_res w a1_0 a1_1 (.slice A1_2 l1_2.length c1_2)
  have hcN := insolvencyref33_NewDocket.calls a0 a1_0 a1_1 A1_2 c1_2 l1_2 n1 n2 n3 n4 n5 n6 _ (Kd.C_below hr1_2 B0) hc1_2 hN
  have HI0 := Aside0.mk h
  have HR2 := Aside0.mk hr2
  clear hr1_2 hN h hr2 hc1_2
  go_enter Try.func31, Try.ntmps31
  go_upto_if 24 with (go_at_call 22; change Calls _ _ _ (plyWorld w a1_0 a1_1 (.slice A1_2 l1_2.length c1_2)) _; refine hcN.mono ?_; rintro e w2 ⟨v3, v4, rfl, hv3, hv4, hb2⟩; obtain ⟨A4, c4, rfl⟩ := Kd.R_slice hv3; obtain ⟨A5, c5, rfl⟩ := Kd.R_slice hv4)
  have gO0 : w.heap.size ≤ w2.heap.size := (below_step B0 hb2).size
  have gZ0 : w.heap.size ≤ w.heap.size + 1 := Nat.le_succ _
  have nZ : w.heap.size + 1 ≠ w2.heap.size := Nat.ne_of_lt (blk_lt (blk_below K0 hb2))
  have S0 : PSt w (w2.alloc (.cells #[.int .i64 n1, .int .i64 n2, .int .i64 n3, .slice A4 n4.length c4, .slice A5 n5.length c5] 30 (0, 0))) w2.heap.size (w.heap.size + 1) n1 n2 n3 (.slice A4 n4.length c4) (.slice A5 n5.length c5) (.slice none 0 0) n4 n5 [] :=
    ⟨below_alloc (below_step B0 hb2) _, blk_new w2 _, blk_alloc (blk_below K0 hb2) _, Kd.R_alloc (Kd.R_lower hv3 B0.size) _, Kd.R_alloc (Kd.R_lower hv4 B0.size) _, Kd.R_nil _ _ _ _ _⟩
  generalize w2.alloc (.cells #[.int .i64 n1, .int .i64 n2, .int .i64 n3, .slice A4 n4.length c4, .slice A5 n5.length c5] 30 (0, 0)) = W3 at *
  generalize w2.heap.size = gO at *
  generalize w.heap.size + 1 = gZ at *
  have SS := Aside0.mk S0
  clear S0 K0 B0 hb2 hv3 hv4 hcN
  have h := HI0.out
  clear HI0
  by_cases he0 : n6 = 0
  case neg =>
    rw [if_neg he0] at h
    have he2 : (n6 != 0) = true := by simpa using he0
    have i := Option.some.inj h
    injection i with i1 i
    injection i with i2 i
    injection i with i3 i
    injection i with i4 i
    injection i with i5 i
    injection i with i6 i
    injection i with i7 i8
    subst i1 i2 i3 i4 i5 i6 i7 i8
    obtain ⟨z0, z1, z2, z3, z4⟩ := cells5 ⟨SS.out.z⟩
    obtain ⟨x0, x1, x2, x3, x4⟩ := frz5 ⟨SS.out.z⟩
    clear h he0
    go_wp2
    refine bodyPost_ret (results_list (rs := [.cell 6 30, .tmp 7, .tmp 8, .tmp 9]) rfl (by simp) (.cell gZ 30 _ (0, 0) _ rfl (five_blk SS.out.z _ _ _ _ _) Try.underlying30 rfl (by kernel_rfl) (.tmp (.tmp (.tmp .nil))))) rfl ?_
    exact ⟨_, _, _, rfl, Kd.R_nil _ _ _ _ _, Kd.R_nil _ _ _ _ _, Kd.R_nil _ _ _ _ _, five_below SS.out.b gZ0 _ _ _ _ _⟩
  rw [if_pos he0] at h
  have HI := Aside0.mk h
  clear h
  subst he0
  go_wp2
  go_loopg [12, 13] k (fun kx s12 s13 wr => ∃ (x d a p : Int) (hs : List Int) (ms : List S50) (rl : List S52) (v3 v4 v5 : Value), s12 = v5 ∧ s13 = .int .i64 x ∧ Aside0 (insolvencyref33_PlayDocket.l0 kx l2 rl x d a p hs ms = some (r1, r2, r3, r4, r5, r6, r7, r8)) ∧ Aside0 (PSt w wr gO gZ d a p v3 v4 v5 hs ms rl))
  case atStart => exact ⟨0, n1, n2, n3, n4, n5, [], _, _, _, rfl, rfl, HI, SS⟩
  case round =>
    obtain ⟨x, d, a, p, hs, ms, rl, v3, v4, v5, rfl, rfl, HI2, S⟩ := hrel
    clear HI SS
    obtain ⟨k1, rfl⟩ : ∃ m, gk = m + 1 := by
      cases gk with
      | zero => have := HI2.out; cases this
      | succ m => exact ⟨m, rfl⟩
    have I := HI2.out
    rw [insolvencyref33_PlayDocket.l0] at I
    clear HI2
    obtain ⟨B3, d3, rfl⟩ := Kd.R_slice S.out.r3
    obtain ⟨B4, d4, rfl⟩ := Kd.R_slice S.out.r4
    obtain ⟨B5, d5, rfl⟩ := Kd.R_slice S.out.r5
    obtain ⟨o0, o1, o2, o3, o4⟩ := cells5 ⟨S.out.o⟩
    by_cases hlt : x < (l2.length : Int)
    · rw [if_pos hlt] at I
      by_cases h0 : 0 ≤ x
      case neg => rw [if_neg h0] at I; cases I
      rw [if_pos h0] at I
      have hd : decide (x < (l2.length : Int)) = true := decide_eq_true hlt
      obtain ⟨ad, rfl, f0, f1, f2, f3⟩ := at_T47 (Kd.C_below HR2.out S.out.b) x h0 hlt
      generalize rd_T47 l2 x = y at *
      have p1 : (0 ≤ x) = True := eq_true h0
      have p2 : (x < (l2.length : Int)) = True := eq_true hlt
      obtain ⟨⟨s1, s2, s3, s4, s5, s6, s7⟩, hF, I2⟩ := Option.bind_eq_some_iff.mp I
      have hcal : ∀ W, Below wr.heap.size wr W → Calls Try.prog 28 #[.agg #[.int .i64 d, .int .i64 a, .int .i64 p, .slice B3 hs.length d3, .slice B4 ms.length d4], .agg #[.int .i64 y.f0, .int .i64 y.f1, .int .i64 y.f2, .int .i64 y.f3]] W fun e w' => ∃ u3 u4 u5 : Value, e = .returned (.tuple #[.agg #[.int .i64 s1, .int .i64 s2, .int .i64 s3, u3, u4], u5, .int .i64 s7]) ∧
          Kd.R (Kd.int .i64) 3 w' w.heap.size (fun _ => True) u3 s4 ∧ Kd.R k50 50 w' w.heap.size (fun _ => True) u4 s5 ∧ Kd.R k52 52 w' w.heap.size (fun _ => True) u5 s6 ∧ Below wr.heap.size wr w' ∧ Below W.heap.size W w' := by
        intro W hW
        refine (ref_File.calls k1 d a p B3 d3 hs B4 d4 ms y.f0 y.f1 y.f2 y.f3 s1 s2 s3 s4 s5 s6 s7 W (Kd.C_below (Kd.R_reads' S.out.r3).2.2 hW) (Kd.R_reads' S.out.r3).2.1 (Kd.C_below (Kd.R_reads' S.out.r4).2.2 hW) (Kd.R_reads' S.out.r4).2.1 hF).mono ?_
        rintro e w' ⟨u3, u4, u5, he, q1, q2, q3, hb⟩
        have hs' : w.heap.size ≤ W.heap.size := Nat.le_trans S.out.b.size hW.size
        exact ⟨u3, u4, u5, he, Kd.R_lower q1 hs', Kd.R_lower q2 hs', Kd.R_lower q3 hs', below_step hW hb, hb⟩
      have I3 := Aside0.mk I2
      clear I I2 hF h0 hlt
      go_wp2_with (fail)
      obtain ⟨u0, u1, u2, u3', u4', u5', u6', u7', u8'⟩ : wr.drew.cell? ⟨gO, 0, none⟩ = some (.int .i64 d) ∧ wr.drew.cell? ⟨gO, 1, none⟩ = some (.int .i64 a) ∧ wr.drew.cell? ⟨gO, 2, none⟩ = some (.int .i64 p) ∧ wr.drew.cell? ⟨gO, 3, none⟩ = some (.slice B3 hs.length d3) ∧ wr.drew.cell? ⟨gO, 4, none⟩ = some (.slice B4 ms.length d4) ∧ wr.drew.cell? (ad.add (x.toNat * 4)) = some (.int .i64 y.f0) ∧ wr.drew.cell? ⟨(ad.add (x.toNat * 4)).block, (ad.add (x.toNat * 4)).off + 1, none⟩ = some (.int .i64 y.f1) ∧ wr.drew.cell? ⟨(ad.add (x.toNat * 4)).block, (ad.add (x.toNat * 4)).off + 2, none⟩ = some (.int .i64 y.f2) ∧ wr.drew.cell? ⟨(ad.add (x.toNat * 4)).block, (ad.add (x.toNat * 4)).off + 3, none⟩ = some (.int .i64 y.f3) := ⟨o0, o1, o2, o3, o4, f0, f1, f2, f3⟩
      have nn1 := World.new_ne wr _ o0
      have nn2 := World.new_ne wr _ f0
      go_region_held3 (fun w_ => (w_.cell? ⟨gO, 0, none⟩ = some (.int .i64 d) ∧ w_.cell? ⟨gO, 1, none⟩ = some (.int .i64 a) ∧ w_.cell? ⟨gO, 2, none⟩ = some (.int .i64 p) ∧ w_.cell? ⟨gO, 3, none⟩ = some (.slice B3 hs.length d3) ∧ w_.cell? ⟨gO, 4, none⟩ = some (.slice B4 ms.length d4)) ∧ w_.cell? (ad.add (x.toNat * 4)) = some (.int .i64 y.f0) ∧ w_.cell? ⟨(ad.add (x.toNat * 4)).block, (ad.add (x.toNat * 4)).off + 1, none⟩ = some (.int .i64 y.f1) ∧ w_.cell? ⟨(ad.add (x.toNat * 4)).block, (ad.add (x.toNat * 4)).off + 2, none⟩ = some (.int .i64 y.f2) ∧ w_.cell? ⟨(ad.add (x.toNat * 4)).block, (ad.add (x.toNat * 4)).off + 3, none⟩ = some (.int .i64 y.f3)) (first | (with_reducible exact ⟨⟨o0, o1, o2, o3, o4⟩, f0, f1, f2, f3⟩) | (with_reducible exact ⟨⟨u0, u1, u2, u3', u4'⟩, u5', u6', u7', u8'⟩) | (with_reducible exact ⟨⟨o0', o1', o2', o3', o4'⟩, f0', f1', f2', f3'⟩) | go_keep)
        (first | (go_at_call 28; refine (hcal _ (by repeat (first | exact Below.refl _ _ | apply below_drew1 | apply below_alloc | apply pw_below_drewN))).mono ?_; rintro e w5 ⟨u3, u4, u5, rfl, hu3', hu4', hu5', hb5, hbW⟩; obtain ⟨D3, q3, rfl⟩ := Kd.R_slice hu3'; obtain ⟨D4, q4, rfl⟩ := Kd.R_slice hu4'; obtain ⟨D5, q5, rfl⟩ := Kd.R_slice hu5'; have o0' := pw_cell_below hb5 o0; have o1' := pw_cell_below hb5 o1; have o2' := pw_cell_below hb5 o2; have o3' := pw_cell_below hb5 o3; have o4' := pw_cell_below hb5 o4; have f0' := pw_cell_below hb5 f0; have f1' := pw_cell_below hb5 f1; have f2' := pw_cell_below hb5 f2; have f3' := pw_cell_below hb5 f3; have nn3 := World.new_ne w5 _ o0'; have nn4 := World.new_ne w5 _ f0'; try (have KN : w5.heap[wr.heap.size]? = some (.cells #[.int .i64 0, .int .i64 0, .int .i64 0, .slice none 0 0, .slice none 0 0] 30 (0, 0)) := blk_below (w := (wr.alloc (.cells #[.int .i64 0, .int .i64 0, .int .i64 0, .slice none 0 0, .slice none 0 0] 30 (0, 0))).drew) (blk_drew (blk_new wr _)) (by with_reducible exact hbW); obtain ⟨z0, z1, z2, z3, z4⟩ := cells5 ⟨KN⟩; obtain ⟨x0, x1, x2, x3, x4⟩ := frz5 ⟨KN⟩)))
      all_goals have S5 := S.out.below hb5
      all_goals have gO1 := blk_lt S.out.o
      all_goals have gZ1 := blk_lt S.out.z
      all_goals have gO2 := blk_lt S5.o
      all_goals have gZ2 := blk_lt S5.z
      all_goals have gw := S.out.b.size
      all_goals first
        | (change Exit.then _ _ _ _ (five w5 wr.heap.size (.int .i64 s1) (.int .i64 s2) (.int .i64 s3) (.slice D3 s4.length q3) (.slice D4 s5.length q4))
           have S6 := S5.other KN (by omega) (by omega) gw (.int .i64 s1) (.int .i64 s2) (.int .i64 s3) (.slice D3 s4.length q3) (.slice D4 s5.length q4)
           have KN6 := five_blk KN (.int .i64 s1) (.int .i64 s2) (.int .i64 s3) (.slice D3 s4.length q3) (.slice D4 s5.length q4)
           have T3 := five_R hu3' KN (by decide) (.int .i64 s1) (.int .i64 s2) (.int .i64 s3) (.slice D3 s4.length q3) (.slice D4 s5.length q4)
           have T4 := five_R hu4' KN (by decide) (.int .i64 s1) (.int .i64 s2) (.int .i64 s3) (.slice D3 s4.length q3) (.slice D4 s5.length q4)
           have T5 := five_R hu5' KN (by decide) (.int .i64 s1) (.int .i64 s2) (.int .i64 s3) (.slice D3 s4.length q3) (.slice D4 s5.length q4)
           generalize five w5 wr.heap.size (.int .i64 s1) (.int .i64 s2) (.int .i64 s3) (.slice D3 s4.length q3) (.slice D4 s5.length q4) = W6 at *
           generalize wr.heap.size = gN at *)
        | (change Exit.then _ _ _ _ (w5.alloc (.cells #[.int .i64 s1, .int .i64 s2, .int .i64 s3, .slice D3 s4.length q3, .slice D4 s5.length q4] 30 (0, 0)))
           have S6 := S5.below (below_alloc (Below.refl w5.heap.size w5) (.cells #[.int .i64 s1, .int .i64 s2, .int .i64 s3, .slice D3 s4.length q3, .slice D4 s5.length q4] 30 (0, 0)))
           have KN6 := blk_new w5 (.cells #[.int .i64 s1, .int .i64 s2, .int .i64 s3, .slice D3 s4.length q3, .slice D4 s5.length q4] 30 (0, 0))
           have T3 := Kd.R_alloc hu3' (.cells #[.int .i64 s1, .int .i64 s2, .int .i64 s3, .slice D3 s4.length q3, .slice D4 s5.length q4] 30 (0, 0))
           have T4 := Kd.R_alloc hu4' (.cells #[.int .i64 s1, .int .i64 s2, .int .i64 s3, .slice D3 s4.length q3, .slice D4 s5.length q4] 30 (0, 0))
           have T5 := Kd.R_alloc hu5' (.cells #[.int .i64 s1, .int .i64 s2, .int .i64 s3, .slice D3 s4.length q3, .slice D4 s5.length q4] 30 (0, 0))
           generalize w5.alloc (.cells #[.int .i64 s1, .int .i64 s2, .int .i64 s3, .slice D3 s4.length q3, .slice D4 s5.length q4] 30 (0, 0)) = W6 at *
           generalize w5.heap.size = gN at *)
      all_goals clear o0 o1 o2 o3 o4 f0 f1 f2 f3 o0' o1' o2' o3' o4' f0' f1' f2' f3' u0 u1 u2 u3' u4' u5' u6' u7' u8' nn1 nn2 nn3 nn4 gO1 gZ1 gO2 gZ2 gw hb5 hbW hu3' hu4' hu5' S5 S hcal
      all_goals try clear z0 z1 z2 z3 z4 x0 x1 x2 x3 x4 KN
      all_goals obtain ⟨n0', n1', n2', n3', n4'⟩ := cells5 ⟨KN6⟩
      all_goals have HIO := I3.out
      all_goals by_cases he : s7 = 0
      all_goals first
        | (rw [if_neg he] at HIO
           have he2 : (s7 != 0) = true := by simpa using he
           have i := Option.some.inj HIO
           injection i with i1 i
           injection i with i2 i
           injection i with i3 i
           injection i with i4 i
           injection i with i5 i
           injection i with i6 i
           injection i with i7 i8
           subst i1 i2 i3 i4 i5 i6 i7 i8
           obtain ⟨z0, z1, z2, z3, z4⟩ := cells5 ⟨S6.z⟩
           obtain ⟨x0, x1, x2, x3, x4⟩ := frz5 ⟨S6.z⟩
           clear HIO I3 he
           go_wp2
           refine bodyPost_ret (results_list (rs := [.cell 6 30, .tmp 7, .tmp 8, .tmp 9]) rfl (by simp) (.cell gZ 30 _ (0, 0) _ rfl (five_blk S6.z _ _ _ _ _) Try.underlying30 rfl (by kernel_rfl) (.tmp (.tmp (.tmp .nil))))) rfl ?_
           exact ⟨_, _, _, rfl, Kd.R_nil _ _ _ _ _, Kd.R_nil _ _ _ _ _, Kd.R_nil _ _ _ _ _, five_below S6.b gZ0 _ _ _ _ _⟩)
        | (rw [if_pos he] at HIO
           by_cases hl : rl.length + s6.length < 5864062014805
           case neg => rw [if_neg hl] at HIO; cases HIO
           rw [if_pos hl] at HIO
           have HI4 := Aside0.mk HIO
           have HL := Aside0.mk hl
           have he2 : (s7 != 0) = false := by simpa using he
           obtain ⟨o0, o1, o2, o3, o4⟩ := cells5 ⟨S6.o⟩
           obtain ⟨x0, x1, x2, x3, x4⟩ := frz5 ⟨S6.o⟩
           have S7 := Aside0.mk (S6.turn (d' := s1) (a' := s2) (p' := s3) gO0 nZ T3 T4)
           have T6 := Aside0.mk (five_R T5 S6.o (by decide) (.int .i64 s1) (.int .i64 s2) (.int .i64 s3) (.slice D3 s4.length q3) (.slice D4 s5.length q4))
           clear HIO I3 S6 T3 T4 T5 KN6 he hl
           go_wp2_with ((with_reducible refine gate_builtin (b := .append) (xs := #[.tmp 49, .tmp 50]) rfl ?_); at_builtin; refine Kd.R_append_rows k52 (w0 := w) w.heap.size rfl (.tmp 49) (.tmp 50) 32 52 (.agg #[(.int .i64 0), (.int .i64 0), (.int .i64 0)]) 24 rfl Try.underlying32 info52 rfl (by decide) (by omega) (.slice B5 rl.length d5) rl s6 _ _ _ (fun _ => True) (fun _ => False) rfl rfl ?aO ?aR (fun _ _ h => h) (fun _ h => h.elim) ?aF ?aB ?aS ?aL ?_; (case aO => exact S7.out.r5); (case aR => exact (Kd.R_reads' T6.out).2.2); (case aF => exact (fun _ _ => trivial)); (case aB => exact S7.out.b); (case aS => exact S7.out.b.size); (case aL => have := HL.out; omega); intro v6 w6 ho6 hb6 hgr hat; have S8 := Aside0.mk (S7.out.app ho6 hb6 hgr); clear hgr hat ho6 hb6)
           go_roundg k1
           case measure => omega
           case rel => exact ⟨_, s1, s2, s3, s4, s5, _, _, _, _, rfl, rfl, HI4, S8⟩)
    · rw [if_neg hlt] at I
      have hd : decide (x < (l2.length : Int)) = false := decide_eq_false hlt
      have i := Option.some.inj I
      injection i with i1 i
      injection i with i2 i
      injection i with i3 i
      injection i with i4 i
      injection i with i5 i
      injection i with i6 i
      injection i with i7 i8
      subst i1 i2 i3 i4 i5 i6 i7 i8
      obtain ⟨z0, z1, z2, z3, z4⟩ := cells5 ⟨S.out.z⟩
      obtain ⟨x0, x1, x2, x3, x4⟩ := frz5 ⟨S.out.z⟩
      clear I hlt
      go_wp2
      refine bodyPost_ret (results_list (rs := [.cell 6 30, .tmp 7, .tmp 8, .tmp 9]) rfl (by simp) (.cell gZ 30 _ (0, 0) _ rfl (five_blk S.out.z _ _ _ _ _) Try.underlying30 rfl (by kernel_rfl) (.tmp (.tmp (.tmp .nil))))) rfl ?_
      exact ⟨_, _, _, rfl, five_R S.out.r3 S.out.z (by decide) _ _ _ _ _, five_R S.out.r4 S.out.z (by decide) _ _ _ _ _, five_R S.out.r5 S.out.z (by decide) _ _ _ _ _, five_below S.out.b gZ0 _ _ _ _ _⟩
end Go.Proofs.Ytpfiecjacpbhkaa.D

/- insolvencylaw0.Matters comes to the filings 'matGo' of its first 24 rows: no condition. -/
namespace Go.Proofs.Ytpfiecjacpbhkaa.D
open Go.RowKit Go.Maps Go.Proofs.YtpfiecjacpbhkaaW.PrintWords Go.Proofs.YtpfiecjacpbhkaaW.PrintLast Go.Proofs.YtpfiecjacpbhkaaW.PrintMore
set_option linter.unusedVariables false
set_option linter.unusedSimpArgs false

/-- The filings of the rows: the day so far, the stage of each matter. -/
def matGo : List S83 → Int → (Int → Int) → List S47
  | [], _, _ => []
  | x :: r, day, st =>
    if 6 ≤ st (wrap64 (Int.tmod x.f2 4)) then matGo r (wrap64 (day + wrap64 (Int.tmod x.f1 4))) st
    else ⟨wrap64 (1 + st (wrap64 (Int.tmod x.f2 4))), wrap64 (day + wrap64 (Int.tmod x.f1 4)), wrap64 (Int.tmod x.f2 4), wrap64 (Int.tmod x.f3 4)⟩ ::
      matGo r (wrap64 (day + wrap64 (Int.tmod x.f1 4))) (fun i => if i = wrap64 (Int.tmod x.f2 4) then wrap64 (st (wrap64 (Int.tmod x.f2 4)) + 1) else st i)
def law0_Matters.f (k : Nat) (l0 : List S83) : Option (List S47) := some (matGo (l0.take 24) 0 (fun _ => 0))
theorem law0_Matters.mono : ∀ a0 k, LeO (law0_Matters.f k a0) (law0_Matters.f (k + 1) a0) := fun _ _ => LeO.refl _

theorem undMapI : Try.prog.underlying 82 = some (.map 3 3) := by kernel_rfl
theorem undI : Try.prog.underlying 3 = some (.int .i64) := by kernel_rfl
theorem zeroI (w : World) : (zeroValue 3).run Try.prog w = .ok (.int .i64 0) w := by kernel_rfl
theorem keyI (i : Int) (hi : (Lit.int .i64 i).wf = true) : keyOf Try.prog 3 (.int .i64 i) = some (.int .i64 i) := by simp [keyOf, undI, mapKey, hi]
theorem lawI : Keyed Try.prog 3 := int_keyed undI
theorem wf64 (x : Int) : (Lit.int .i64 (wrap64 x)).wf = true := by
  simp [Lit.wf, IntKind.min, IntKind.max, IntKind.signed, IntKind.bits]
  unfold wrap64
  omega

/-- Block g is the table f, of at most m entries. -/
def IsTab (W : World) (g : Nat) (f : Int → Int) (m : Nat) : Prop :=
  ∃ n D, n ≤ m ∧ W.ownsMap Try.prog 3 (plainElem (H := Unit) Try.prog 3) g n D ∧ ∀ i : Int, (Lit.int .i64 i).wf = true → D.atKey (.int .i64 i) (.lit (.int .i64 0)) = .lit (.int .i64 (f i))
theorem IsTab.lt {W : World} {g m : Nat} {f : Int → Int} (h : IsTab W g f m) : g < W.heap.size := by
  obtain ⟨n, D, _, h2, _⟩ := h
  exact h2.lt
theorem IsTab.made (w : World) : IsTab (w.alloc (.map #[] 0)) w.heap.size (fun _ => 0) 0 := ⟨0, .map [], Nat.le_refl _, World.ownsMap_made w _ _ _, fun i _ => by simp [DataW.atKey]⟩
theorem IsTab.alloc {W : World} {g m : Nat} {f : Int → Int} (h : IsTab W g f m) (o : Obj) : IsTab (W.alloc o) g f m := by
  obtain ⟨n, D, h1, h2, h3⟩ := h
  exact ⟨n, D, h1, h2.alloc o, h3⟩
theorem IsTab.grown {W W' : World} {row : Option Nat} {g m : Nat} {f : Int → Int} (h : IsTab W g f m) (hg : W.grownBy W' row) (hne : some g ≠ row) : IsTab W' g f m := by
  obtain ⟨n, D, h1, h2, h3⟩ := h
  exact ⟨n, D, h1, h2.kept hg hne, h3⟩
theorem IsTab.le {W : World} {g m m' : Nat} {f : Int → Int} (h : IsTab W g f m) (hm : m ≤ m') : IsTab W g f m' := by
  obtain ⟨n, D, h1, h2⟩ := h
  exact ⟨n, D, by omega, h2⟩
theorem IsTab.obj {W : World} {g m : Nat} {f : Int → Int} (h : IsTab W g f m) : ∃ es ck, W.heap[g]? = some (.map es ck) := by
  obtain ⟨n, D, h1, ⟨es, ck, hb, F, hs, hD⟩, h3⟩ := h
  exact ⟨es, ck, hb⟩
theorem R_ne_tab {α : Type} {d : Kd α} {e base g m : Nat} {w : World} {ok : Nat → Prop} {v : Value} {xs : List α} {f : Int → Int} (h : d.R e w base ok v xs) (ht : IsTab w g f m) : some g ≠ v.ownBlock := by
  obtain ⟨es, ck, hb⟩ := ht.obj
  obtain ⟨inner, ho, _⟩ := h.2
  rcases ho.2 with ⟨rfl, _⟩ | ⟨g', cap, cur, rfl, _, hh, _⟩
  · simp [Value.ownBlock]
  · intro he
    have e' : g = g' := by simpa [Value.ownBlock] using he
    subst e'
    rw [hb] at hh
    cases hh

theorem R_tab {α : Type} {d : Kd α} {e base g m : Nat} {w w' : World} {ok : Nat → Prop} {v : Value} {xs : List α} {f : Int → Int} (h : d.R e w base ok v xs) (ht : IsTab w g f m) (hg : w.grownBy w' (some g)) : d.R e w' base ok v xs := by
  obtain ⟨es, ck, hb⟩ := ht.obj
  refine Kd.R_mono (Kd.R_step (Kd.R_bound h) (fun k hk hlt => hg.block k hlt ?_)) (fun _ hk => hk.1)
  intro he
  have e' : k = g := by simpa using he
  subst e'
  obtain ⟨_, _, _, q, hq, cs, hc⟩ := hk
  rw [hb] at hc
  cases hc
section
variable {P : Program} {ops : Array Oper} {Q : Exit → Act → World → Prop}
theorem gate_look {t : TypeId} {m x : Operand} {c : Bool} {o : Oper} {rest : List Oper} {a : Act} {W : World} (_ho : o.op = Op.lookup t m x c) (h : wpList P ops Q (o :: rest) a W) : wpList P ops Q (o :: rest) a W := h
theorem gate_put {t : TypeId} {m x v : Operand} {o : Oper} {rest : List Oper} {a : Act} {W : World} (_ho : o.op = Op.mapUpdate t m x v) (h : wpList P ops Q (o :: rest) a W) : wpList P ops Q (o :: rest) a W := h
theorem lookT_ {rest : List Oper} {o : Oper} {a : Act} {w : World} (hg : o.guard = none) {m x : Operand} (hop : o.op = Op.lookup 82 m x false)
    {g n : Nat} {f : Int → Int} (i : Int) (hm : a.eval m = .map (some g)) (hx : a.eval x = .int .i64 i) (hs : IsTab w g f n) (hi : (Lit.int .i64 i).wf = true)
    (h : wpList Try.prog ops Q rest (a.put o.dst (.int .i64 (f i))) w) : wpList Try.prog ops Q (o :: rest) a w := by
  obtain ⟨n, D, _, h2, h3⟩ := hs
  refine wpList_lookup_own_int w hg m x 82 hop 3 3 .i64 lawI undMapI undI (zeroI w) g n D hm h2 _ _ hx (keyI i hi) (fun c hc _ => ?_)
  have e := hc.symm.trans (h3 i hi)
  simp only [DataW.lit.injEq, Lit.int.injEq, true_and] at e
  rw [e]
  exact h
theorem putT_ {rest : List Oper} {o : Oper} {a : Act} {w : World} (hd : o.dst = none) (hg : o.guard = none) {m x v : Operand} (hop : o.op = Op.mapUpdate 82 m x v)
    {g n : Nat} {f : Int → Int} (i y : Int) (hm : a.eval m = .map (some g)) (hx : a.eval x = .int .i64 i) (hv : a.eval v = .int .i64 y) (hs : IsTab w g f n) (hi : (Lit.int .i64 i).wf = true) (hy : (Lit.int .i64 y).wf = true) (hn : n < maxLen)
    (h : ∀ w', IsTab w' g (fun j => if j = i then y else f j) (n + 1) → w.grownBy w' (some g) → wpList Try.prog ops Q rest (a.put none undef) w') : wpList Try.prog ops Q (o :: rest) a w := by
  obtain ⟨n', D, h1, h2, h3⟩ := hs
  refine wpList_mapUpdate_own w hg m x v 82 hop 3 3 lawI undMapI _ g n' D hm h2 (by omega) _ _ _ hx hv (keyI i hi) _ [] (plainElem_int undI hy) ?_
  intro w' o1 o2
  rw [hd]
  refine h w' ⟨n' + 1, _, by omega, o1, ?_⟩ o2
  intro j hj
  have hM : IsMap D := by obtain ⟨es, clock, _, _, _, rfl⟩ := h2; exact ⟨_, rfl⟩
  by_cases e : j = i
  · subst e
    rw [atKey_put_same hM (lawI.key (keyI j hj))]
    simp
  · rw [atKey_put_other (by simpa using e), h3 j hj]
    simp [e]
end

theorem mat_step (l : List S83) (j : Nat) (h : j < l.length) (day : Int) (st : Int → Int) (acc r : List S47) (I : acc ++ matGo (l.drop j) day st = r) :
    (6 ≤ st (wrap64 (Int.tmod l[j].f2 4)) → acc ++ matGo (l.drop (j + 1)) (wrap64 (day + wrap64 (Int.tmod l[j].f1 4))) st = r) ∧
    (¬ 6 ≤ st (wrap64 (Int.tmod l[j].f2 4)) → (acc ++ [⟨wrap64 (1 + st (wrap64 (Int.tmod l[j].f2 4))), wrap64 (day + wrap64 (Int.tmod l[j].f1 4)), wrap64 (Int.tmod l[j].f2 4), wrap64 (Int.tmod l[j].f3 4)⟩]) ++
      matGo (l.drop (j + 1)) (wrap64 (day + wrap64 (Int.tmod l[j].f1 4))) (fun i => if i = wrap64 (Int.tmod l[j].f2 4) then wrap64 (st (wrap64 (Int.tmod l[j].f2 4)) + 1) else st i) = r) := by
  rw [List.drop_eq_getElem_cons h, matGo] at I
  constructor
  · intro h6
    rw [if_pos h6] at I
    exact I
  · intro h6
    rw [if_neg h6] at I
    rw [List.append_assoc]
    exact I

theorem meas24 {n j : Nat} {x : Int} (hx : x = ((j + 1 : Nat) : Int)) (h : j < n) : n - (intOf (.int .i64 x)).toNat < n - (intOf (.int .i64 (j : Int))).toNat := by
  subst hx
  show n - Int.toNat ((j + 1 : Nat) : Int) < n - Int.toNat (j : Int)
  rw [Int.toNat_natCast, Int.toNat_natCast]
  omega
theorem w64s (j : Nat) (h : j < 24) : wrap64 ((j : Int) + 1) = ((j + 1 : Nat) : Int) := by unfold wrap64; omega

set_option maxHeartbeats 8000000 in
set_option maxRecDepth 100000 in
theorem law0_Matters.calls (k : Nat) (A0 : Option Addr) (c0 : Nat) (l0 : List S83) (r : List S47) (w : World) (hr0 : Kd.C k83 w A0 l0.length l0) (hc0 : l0.length ≤ c0) (h : law0_Matters.f k l0 = some r) :
    Calls Try.prog 19 #[.slice A0 l0.length c0] w fun e w' => ∃ v0_ : Value, e = .returned (v0_) ∧ Kd.R k47 47 w' w.heap.size (fun _ => True) v0_ r ∧ Below w.heap.size w w' := by
  have hu := Try.underlying83
  have hu2 := Try.underlying47
  have hmm := @run_makeMap Try.prog
  have I0 : ([] : List S47) ++ matGo ((l0.take 24).drop 0) 0 (fun _ => 0) = r := Option.some.inj h
  clear h
  have HR := Aside0.mk hr0
  have R0 := Aside0.mk I0
  clear hr0 I0
  go_enter Try.func19, Try.ntmps19
  go_wp2
  have T0 := IsTab.made w
  have B0 : Below w.heap.size w (w.alloc (.map #[] 0)) := below_alloc (Below.refl _ _) _
  generalize w.alloc (.map #[] 0) = wm at T0 B0 ⊢
  have HB0 := Aside0.mk B0
  have HT0 := Aside0.mk T0
  clear B0 T0
  go_loopg [3, 4, 6] 24 (fun kx s3 s4 s6 wr => ∃ (j : Nat) (day : Int) (st : Int → Int) (acc : List S47), s4 = .int .i64 day ∧ s6 = .int .i64 j ∧ j ≤ l0.length ∧ j ≤ 24 ∧ 24 - j ≤ kx ∧ acc.length ≤ j ∧ Aside0 (IsTab wr w.heap.size st j) ∧ Aside0 (acc ++ matGo ((l0.take 24).drop j) day st = r) ∧
      Aside0 (Kd.R k47 47 wr w.heap.size (fun _ => True) s3 acc) ∧ Aside0 (Below w.heap.size w wr))
  case atStart => exact ⟨0, 0, fun _ => 0, [], rfl, rfl, Nat.zero_le _, by omega, by omega, Nat.le_refl _, HT0, R0, ⟨Kd.R_nil _ _ _ _ _⟩, HB0⟩
  case round =>
    obtain ⟨j, day, st, acc, rfl, rfl, hj, hj4, hk, hac, TT, I, RR, HB⟩ := hrel
    clear R0 HB0 HT0
    obtain ⟨A3, c3, rfl⟩ := Kd.R_slice RR.out
    by_cases hlt : j < l0.length
    · have hd : decide ((j : Int) < (l0.length : Int)) = true := decide_eq_true (by omega)
      by_cases h24 : j < 24
      · obtain ⟨k1, rfl⟩ : ∃ m, gk = m + 1 := ⟨gk - 1, by omega⟩
        have hd2 : decide ((j : Int) < 24) = true := decide_eq_true (by omega)
        have p0 : 0 ≤ (j : Int) := Int.natCast_nonneg j
        have q0 : (j : Int) < (l0.length : Int) := by omega
        have hjt : j < (l0.take 24).length := by rw [List.length_take]; omega
        have er : rd_T83 l0 (j : Int) = (l0.take 24)[j] := by
          unfold rd_T83
          rw [Int.toNat_natCast, List.getD_eq_getElem?_getD, List.getElem?_eq_getElem hlt, List.getElem_take]
          rfl
        have ms := mat_step (l0.take 24) j hjt day st acc r I.out
        obtain ⟨ad, ea, h0, h1, h2, h3⟩ := at_T83 HR.out (j : Int) p0 q0
        cases ea
        rw [er, Int.toNat_natCast] at h0 h1 h2 h3
        replace h0 := (HB.out.cell (World.block_lt_of_cell? w _ h0)).trans h0
        replace h1 := (HB.out.cell (World.block_lt_of_cell? w _ h1)).trans h1
        replace h2 := (HB.out.cell (World.block_lt_of_cell? w _ h2)).trans h2
        replace h3 := (HB.out.cell (World.block_lt_of_cell? w _ h3)).trans h3
        have hw := w64s j h24
        generalize (l0.take 24)[j] = y at *
        have p1 := eq_true p0
        have q1 := eq_true q0
        have TA := Aside0.mk (TT.out.alloc (.cells #[.int .u8 y.f0, .int .u8 y.f1, .int .u8 y.f2, .int .u8 y.f3] 83 (0, 0)))
        clear p0 q0 I er hjt
        by_cases h6 : 6 ≤ st (wrap64 (Int.tmod y.f2 4))
        · have hd3 : decide (6 ≤ st (wrap64 (Int.tmod y.f2 4))) = true := decide_eq_true h6
          have I2 := Aside0.mk (ms.1 h6)
          clear ms h6
          go_wp2_with ((with_reducible refine gate_look (t := 82) rfl ?_); refine lookT_ rfl rfl (wrap64 (Int.tmod y.f2 4)) rfl rfl TA.out (wf64 _) ?_)
          go_roundg k1
          case measure => omega
          case rel => exact ⟨j + 1, _, st, acc, rfl, by first | rw [hw] | (simp only [hw]; done) | go_num, by omega, by omega, by omega, by omega, ⟨TA.out.le (Nat.le_succ j)⟩, I2, ⟨Kd.R_alloc RR.out _⟩, ⟨below_alloc HB.out _⟩⟩
        · have hd3 : decide (6 ≤ st (wrap64 (Int.tmod y.f2 4))) = false := decide_eq_false h6
          have I2 := Aside0.mk (ms.2 h6)
          clear ms h6
          have KX := blk_new wr (.cells #[.int .u8 y.f0, .int .u8 y.f1, .int .u8 y.f2, .int .u8 y.f3] 83 (0, 0))
          have hne : some wr.heap.size ≠ some w.heap.size := by have := TT.out.lt; simp; omega
          go_wp2_with (first | ((with_reducible refine gate_look (t := 82) rfl ?_); refine lookT_ rfl rfl (wrap64 (Int.tmod y.f2 4)) rfl rfl TA.out (wf64 _) ?_) |
            ((with_reducible refine gate_put (t := 82) rfl ?_); refine putT_ rfl rfl rfl (wrap64 (Int.tmod y.f2 4)) (wrap64 (st (wrap64 (Int.tmod y.f2 4)) + 1)) rfl rfl rfl TA.out (wf64 _) (wf64 _) ?hn ?_; (case hn => unfold maxLen; omega); intro w2 T2 hg2; have K2 := blk_grown KX hg2 hne; have R2 := R_tab (Kd.R_alloc RR.out _) TA.out hg2; have B2 : Below w.heap.size w w2 := (below_alloc HB.out _).grown hg2 (below_alloc HB.out _).size (fun k hk => by cases hk; exact Nat.le_refl _); obtain ⟨kc0, kc1, kc2, kc3⟩ := cells4 ⟨K2⟩) |
            ((with_reducible refine gate_builtin (b := .append) (xs := #[.tmp 44, .tmp 54]) rfl ?_); at_builtin; refine Kd.R_append k47 (w0 := w) w.heap.size rfl (.tmp 44) (.tmp 54) 43 47 (.agg #[(.int .i64 0), (.int .i64 0), (.int .i64 0), (.int .i64 0)]) 32 rfl Try.underlying43 info47 rfl (by decide) (by omega) _ acc (⟨wrap64 (1 + st (wrap64 (Int.tmod y.f2 4))), wrap64 (day + wrap64 (Int.tmod y.f1 4)), wrap64 (Int.tmod y.f2 4), wrap64 (Int.tmod y.f3 4)⟩ : S47) [.int .i64 (wrap64 (1 + st (wrap64 (Int.tmod y.f2 4)))), .int .i64 (wrap64 (day + wrap64 (Int.tmod y.f1 4))), .int .i64 (wrap64 (Int.tmod y.f2 4)), .int .i64 (wrap64 (Int.tmod y.f3 4))] (fun _ => True) (fun _ => False) rfl rfl ?aP (fun _ hk => hk.elim) ?aF ?aO ?aB ?aS ?aL ?_; (case aP => exact k47_mkM _ _ _ (⟨_, _, _, _⟩ : S47)); (case aB => exact B2); (case aF => exact (fun _ _ => trivial)); (case aO => exact R2); (case aS => exact B2.size); (case aL => omega); intro v5 w5 ho5 hb5 hgr hat; obtain ⟨A6, c6, rfl⟩ := Kd.R_slice ho5; have T5 := T2.grown hgr (R_ne_tab R2 T2)))
          go_roundg k1
          case measure => omega
          case rel => exact ⟨j + 1, _, _, _, rfl, by first | rw [hw] | (simp only [hw]; done) | go_num, by omega, by omega, by omega, by simp; omega, ⟨T5⟩, I2, ⟨by simpa using Kd.R_mono ho5 (fun _ _ => trivial)⟩, ⟨hb5⟩⟩
      · obtain rfl : j = 24 := by omega
        have I2 := I.out
        rw [List.drop_eq_nil_of_le (by rw [List.length_take]; omega), matGo, List.append_nil] at I2
        subst I2
        have hd2 : decide (((24 : Nat) : Int) < 24) = false := decide_eq_false (by omega)
        clear TT I
        go_wp2
        go_ret
        exact ⟨_, rfl, RR.out, HB.out⟩
    · obtain rfl : j = l0.length := by omega
      have I2 := I.out
      rw [List.drop_eq_nil_of_le (by rw [List.length_take]; omega), matGo, List.append_nil] at I2
      subst I2
      have hd : decide ((l0.length : Int) < (l0.length : Int)) = false := decide_eq_false (by omega)
      clear TT I
      go_wp2
      go_ret
      exact ⟨_, rfl, RR.out, HB.out⟩
end Go.Proofs.Ytpfiecjacpbhkaa.D

/- insolvencylaw33.DocketPlay as_ a Lean function; the blocks that its walk carries along; the plays' contracts. -/
namespace Go.Proofs.Ytpfiecjacpbhkaa.D
open Go.RowKit Go.Proofs.YtpfiecjacpbhkaaW.PrintWords Go.Proofs.YtpfiecjacpbhkaaW.PrintLast Go.Proofs.YtpfiecjacpbhkaaW.PrintMore
set_option linter.unusedVariables false
set_option linter.unusedSimpArgs false

abbrev Pl := Int × Int × Int × List Int × List S50 × List S52 × Int × Int
/-- Two plays' results are the same: then 'c'. -/
def plSame (k : Nat) (a b : Pl) (c : Option Bool) : Option Bool :=
  if a.2.2.2.2.2.2.2 = b.2.2.2.2.2.2.2 then (if a.2.2.2.2.2.2.1 = b.2.2.2.2.2.2.1 then ((insolvencyref33_SameDocket.f k a.1 a.2.1 a.2.2.1 a.2.2.2.1 a.2.2.2.2.1 b.1 b.2.1 b.2.2.1 b.2.2.2.1 b.2.2.2.2.1).bind fun t => if t = true then ((insolvencyref33_SameRulings.f k a.2.2.2.2.2.1 b.2.2.2.2.2.1).bind fun t => if t = true then c else none) else none) else none) else none
theorem plSame_out {k : Nat} {a1 a2 a3 an ae b1 b2 b3 bn be : Int} {ah bh : List Int} {am bm : List S50} {ar br : List S52} {c : Option Bool} {r : Bool} (h : plSame k (a1, a2, a3, ah, am, ar, an, ae) (b1, b2, b3, bh, bm, br, bn, be) c = some r) :
    ae = be ∧ an = bn ∧ insolvencyref33_SameDocket.f k a1 a2 a3 ah am b1 b2 b3 bh bm = some true ∧ insolvencyref33_SameRulings.f k ar br = some true ∧ c = some r := by
  unfold plSame at h
  dsimp only at h
  by_cases h1 : ae = be
  case neg => rw [if_neg h1] at h; cases h
  rw [if_pos h1] at h
  by_cases h2 : an = bn
  case neg => rw [if_neg h2] at h; cases h
  rw [if_pos h2] at h
  obtain ⟨t, h3, h⟩ := Option.bind_eq_some_iff.mp h
  cases t
  case false => rw [if_neg (by decide)] at h; cases h
  rw [if_pos rfl] at h
  obtain ⟨t, h4, h⟩ := Option.bind_eq_some_iff.mp h
  cases t
  case false => rw [if_neg (by decide)] at h; cases h
  rw [if_pos rfl] at h
  exact ⟨h1, h2, h3, h4, h⟩
def insolvencylaw33_DocketPlay.f (k : Nat) (a0 : Int) (a1_0 : Int) (a1_1 : Int) (l2 : List Int) (l3 : List S83) (l4 : List S83) (a5 : Int) : Option Bool :=
  (insolvencylaw0_Terms.f k a1_0 a1_1 l2).bind fun T => (insolvencylaw0_Filings.f k l3).bind fun fl =>
  (docket_Play.f k (IntKind.i64.wrap (Int.tmod a0 4)) T.1 T.2.1 T.2.2 fl).bind fun a => (insolvencyref33_PlayDocket.f k (IntKind.i64.wrap (Int.tmod a0 4)) T.1 T.2.1 T.2.2 fl).bind fun b => plSame k a b
  ((law0_Matters.f k l4).bind fun ml => (docket_Play.f k 0 T.1 T.2.1 T.2.2 ml).bind fun a => (insolvencyref33_PlayDocket.f k 0 T.1 T.2.1 T.2.2 ml).bind fun b => plSame k a b
  ((docket_Play.f k a5 T.1 T.2.1 T.2.2 []).bind fun a => (insolvencyref33_PlayDocket.f k a5 T.1 T.2.1 T.2.2 []).bind fun b => (insolvencylaw33_awake.f k).bind fun t =>
  if t = true then (if a.2.2.2.2.2.2.1 = b.2.2.2.2.2.2.1 then some (a.2.2.2.2.2.2.2 == b.2.2.2.2.2.2.2) else none) else none))

theorem dplay_out {k : Nat} {a0 a1_0 a1_1 a5 : Int} {l2 : List Int} {l3 l4 : List S83} {r : Bool} (h : insolvencylaw33_DocketPlay.f k a0 a1_0 a1_1 l2 l3 l4 a5 = some r) :
    ∃ (t1 t2 : Int) (t3 : List Int) (fl ml : List S47) (a1 a2 a3 : Int) (ah : List Int) (am : List S50) (ar : List S52) (an ae b1 b2 b3 : Int) (bh : List Int) (bm : List S50) (br : List S52)
      (p1 p2 p3 : Int) (ph : List Int) (pm : List S50) (pr : List S52) (pn pe q1 q2 q3 : Int) (qh : List Int) (qm : List S50) (qr : List S52)
      (x1 x2 x3 : Int) (xh : List Int) (xm : List S50) (xr : List S52) (xn xe y1 y2 y3 : Int) (yh : List Int) (ym : List S50) (yr : List S52) (ye : Int),
      insolvencylaw0_Terms.f k a1_0 a1_1 l2 = some (t1, t2, t3) ∧ insolvencylaw0_Filings.f k l3 = some fl ∧ law0_Matters.f k l4 = some ml ∧
      docket_Play.f k (IntKind.i64.wrap (Int.tmod a0 4)) t1 t2 t3 fl = some (a1, a2, a3, ah, am, ar, an, ae) ∧ insolvencyref33_PlayDocket.f k (IntKind.i64.wrap (Int.tmod a0 4)) t1 t2 t3 fl = some (b1, b2, b3, bh, bm, br, an, ae) ∧
      insolvencyref33_SameDocket.f k a1 a2 a3 ah am b1 b2 b3 bh bm = some true ∧ insolvencyref33_SameRulings.f k ar br = some true ∧
      docket_Play.f k 0 t1 t2 t3 ml = some (p1, p2, p3, ph, pm, pr, pn, pe) ∧ insolvencyref33_PlayDocket.f k 0 t1 t2 t3 ml = some (q1, q2, q3, qh, qm, qr, pn, pe) ∧
      insolvencyref33_SameDocket.f k p1 p2 p3 ph pm q1 q2 q3 qh qm = some true ∧ insolvencyref33_SameRulings.f k pr qr = some true ∧
      docket_Play.f k a5 t1 t2 t3 [] = some (x1, x2, x3, xh, xm, xr, xn, xe) ∧ insolvencyref33_PlayDocket.f k a5 t1 t2 t3 [] = some (y1, y2, y3, yh, ym, yr, xn, ye) ∧
      insolvencylaw33_awake.f k = some true ∧ r = (xe == ye) := by
  unfold insolvencylaw33_DocketPlay.f at h
  obtain ⟨⟨t1, t2, t3⟩, hT, h⟩ := Option.bind_eq_some_iff.mp h
  obtain ⟨fl, hF, h⟩ := Option.bind_eq_some_iff.mp h
  dsimp only at h
  obtain ⟨⟨a1, a2, a3, ah, am, ar, an, ae⟩, hA, h⟩ := Option.bind_eq_some_iff.mp h
  obtain ⟨⟨b1, b2, b3, bh, bm, br, bn, be⟩, hB, h⟩ := Option.bind_eq_some_iff.mp h
  obtain ⟨rfl, rfl, hs1, hs2, h⟩ := plSame_out h
  obtain ⟨ml, hM, h⟩ := Option.bind_eq_some_iff.mp h
  obtain ⟨⟨p1, p2, p3, ph, pm, pr, pn, pe⟩, hP, h⟩ := Option.bind_eq_some_iff.mp h
  obtain ⟨⟨q1, q2, q3, qh, qm, qr, qn, qe⟩, hQ, h⟩ := Option.bind_eq_some_iff.mp h
  obtain ⟨rfl, rfl, hs3, hs4, h⟩ := plSame_out h
  obtain ⟨⟨x1, x2, x3, xh, xm, xr, xn, xe⟩, hX, h⟩ := Option.bind_eq_some_iff.mp h
  obtain ⟨⟨y1, y2, y3, yh, ym, yr, yn, ye⟩, hY, h⟩ := Option.bind_eq_some_iff.mp h
  obtain ⟨t, hw, h⟩ := Option.bind_eq_some_iff.mp h
  cases t
  case false => rw [if_neg (by decide)] at h; cases h
  rw [if_pos rfl] at h
  by_cases hn : xn = yn
  case neg => rw [if_neg hn] at h; cases h
  rw [if_pos hn] at h
  subst hn
  exact ⟨t1, t2, t3, fl, ml, a1, a2, a3, ah, am, ar, an, ae, b1, b2, b3, bh, bm, br, p1, p2, p3, ph, pm, pr, pn, pe, q1, q2, q3, qh, qm, qr, x1, x2, x3, xh, xm, xr, xn, xe, y1, y2, y3, yh, ym, yr, ye, hT, hF, hM, hA, hB, hs1, hs2, hP, hQ, hs3, hs4, hX, hY, hw, (Option.some.inj h).symm⟩

/-- The terms' block. -/
structure TB (w W : World) (g : Nat) (t1 t2 : Int) (v : Value) (l : List Int) : Prop where
  b : Below w.heap.size w W
  o : W.heap[g]? = some (.cells #[.int .i64 t1, .int .i64 t2, v] 27 (0, 0))
  r : Kd.R (Kd.int .i64) 3 W w.heap.size (fun _ => True) v l
/-- A docket's block and the rows of a play's results. -/
structure DkB (w W : World) (g : Nat) (d a p : Int) (v3 v4 v5 : Value) (hs : List Int) (ms : List S50) (rl : List S52) : Prop where
  o : W.heap[g]? = some (.cells #[.int .i64 d, .int .i64 a, .int .i64 p, v3, v4] 30 (0, 0))
  g0 : w.heap.size ≤ g
  r3 : Kd.R (Kd.int .i64) 3 W w.heap.size (fun _ => True) v3 hs
  r4 : Kd.R k50 50 W w.heap.size (fun _ => True) v4 ms
  r5 : Kd.R k52 52 W w.heap.size (fun _ => True) v5 rl
section
variable {w W W' : World} {g gN : Nat} {t1 t2 d a p : Int} {v v3 v4 v5 : Value} {l hs : List Int} {ms : List S50} {rl : List S52}
theorem TB.below (h : TB w W g t1 t2 v l) (hb : Below W.heap.size W W') : TB w W' g t1 t2 v l := ⟨below_step h.b hb, blk_below h.o hb, Kd.R_below h.r hb⟩
theorem DkB.below (h : DkB w W g d a p v3 v4 v5 hs ms rl) (hb : Below W.heap.size W W') : DkB w W' g d a p v3 v4 v5 hs ms rl := ⟨blk_below h.o hb, h.g0, Kd.R_below h.r3 hb, Kd.R_below h.r4 hb, Kd.R_below h.r5 hb⟩
theorem five_far {V : World} {k : Nat} {t : TypeId} {cs : Array Value} (h : V.heap[k]? = some (.cells cs t (0, 0))) (hn : k ≠ gN) (x0 x1 x2 x3 x4 : Value) : (five V gN x0 x1 x2 x3 x4).heap[k]? = some (.cells cs t (0, 0)) := by
  unfold five
  exact blk_far (p := ⟨gN, 4, none⟩) (blk_far (p := ⟨gN, 3, none⟩) (blk_far (p := ⟨gN, 2, none⟩) (blk_far (p := ⟨gN, 1, none⟩) (blk_far (p := ⟨gN, 0, none⟩) h hn _) hn _) hn _) hn _) hn _
theorem ne_types {V : World} {k m : Nat} {t t2 : TypeId} {cs cs2 : Array Value} (h : V.heap[k]? = some (.cells cs t (0, 0))) (h2 : V.heap[m]? = some (.cells cs2 t2 (0, 0))) (hn : t ≠ t2) : k ≠ m := by
  rintro rfl
  rw [h] at h2
  injection h2 with h2
  injection h2 with _ h2
  exact hn h2
/-- A docket's block is written: the terms' block stays. -/
theorem TB.fiv (h : TB w W g t1 t2 v l) {y0 y1 y2 y3 y4 : Value} (hN : W.heap[gN]? = some (.cells #[y0, y1, y2, y3, y4] 30 (0, 0))) (h0 : w.heap.size ≤ gN) (x0 x1 x2 x3 x4 : Value) : TB w (five W gN x0 x1 x2 x3 x4) g t1 t2 v l :=
  ⟨five_below h.b h0 _ _ _ _ _, five_far h.o (ne_types h.o hN (by decide)) _ _ _ _ _, five_R h.r hN (by decide) _ _ _ _ _⟩
theorem DkB.fiv (h : DkB w W g d a p v3 v4 v5 hs ms rl) {y0 y1 y2 y3 y4 : Value} (hN : W.heap[gN]? = some (.cells #[y0, y1, y2, y3, y4] 30 (0, 0))) (hn : g ≠ gN) (x0 x1 x2 x3 x4 : Value) : DkB w (five W gN x0 x1 x2 x3 x4) g d a p v3 v4 v5 hs ms rl :=
  ⟨five_far h.o hn _ _ _ _ _, h.g0, five_R h.r3 hN (by decide) _ _ _ _ _, five_R h.r4 hN (by decide) _ _ _ _ _, five_R h.r5 hN (by decide) _ _ _ _ _⟩
/-- A play's results are written into a block. -/
theorem DkB.put {y0 y1 y2 y3 y4 : Value} (hN : W.heap[gN]? = some (.cells #[y0, y1, y2, y3, y4] 30 (0, 0))) (h0 : w.heap.size ≤ gN)
    (h3 : Kd.R (Kd.int .i64) 3 W w.heap.size (fun _ => True) v3 hs) (h4 : Kd.R k50 50 W w.heap.size (fun _ => True) v4 ms) (h5 : Kd.R k52 52 W w.heap.size (fun _ => True) v5 rl) : DkB w (five W gN (.int .i64 d) (.int .i64 a) (.int .i64 p) v3 v4) gN d a p v3 v4 v5 hs ms rl :=
  ⟨five_blk hN _ _ _ _ _, h0, five_R h3 hN (by decide) _ _ _ _ _, five_R h4 hN (by decide) _ _ _ _ _, five_R h5 hN (by decide) _ _ _ _ _⟩
/-- .. or into a new one. -/
theorem DkB.new (h0 : w.heap.size ≤ W.heap.size)
    (h3 : Kd.R (Kd.int .i64) 3 W w.heap.size (fun _ => True) v3 hs) (h4 : Kd.R k50 50 W w.heap.size (fun _ => True) v4 ms) (h5 : Kd.R k52 52 W w.heap.size (fun _ => True) v5 rl) : DkB w (W.alloc (.cells #[.int .i64 d, .int .i64 a, .int .i64 p, v3, v4] 30 (0, 0))) W.heap.size d a p v3 v4 v5 hs ms rl :=
  ⟨blk_new W _, h0, Kd.R_alloc h3 _, Kd.R_alloc h4 _, Kd.R_alloc h5 _⟩
/-- What a play's call leaves. -/
def PlE (w W V : World) (r1 r2 r3 r7 r8 : Int) (r4 : List Int) (r5 : List S50) (r6 : List S52) (e : Ending) (w' : World) : Prop := ∃ v3 v4 v5 : Value, e = .returned (.tuple #[.agg #[.int .i64 r1, .int .i64 r2, .int .i64 r3, v3, v4], v5, .int .i64 r7, .int .i64 r8]) ∧
  Kd.R (Kd.int .i64) 3 w' w.heap.size (fun _ => True) v3 r4 ∧ Kd.R k50 50 w' w.heap.size (fun _ => True) v4 r5 ∧ Kd.R k52 52 w' w.heap.size (fun _ => True) v5 r6 ∧ Below W.heap.size W w' ∧ Below V.heap.size V w'
theorem play_at {k c : Nat} {day r1 r2 r3 r7 r8 : Int} {r4 : List Int} {r5 : List S50} {r6 : List S52} {fl : List S47} {A : Option Addr} (hf : docket_Play.f k day t1 t2 l fl = some (r1, r2, r3, r4, r5, r6, r7, r8)) (h : TB w W g t1 t2 (.slice A l.length c) l) :
    ∀ V B m, Below W.heap.size W V → Kd.C k47 V B fl.length fl → fl.length ≤ m → Calls Try.prog 29 #[.int .i64 day, .agg #[.int .i64 t1, .int .i64 t2, .slice A l.length c], .slice B fl.length m] V (PlE w W V r1 r2 r3 r7 r8 r4 r5 r6) := by
  intro V B m hV hC hm
  refine (docket_Play.calls k day t1 t2 A c l B m fl r1 r2 r3 r4 r5 r6 r7 r8 V (Kd.C_below (Kd.R_reads' h.r).2.2 hV) (Kd.R_reads' h.r).2.1 hC hm hf).mono ?_
  rintro e w' ⟨u3, u4, u5, he, q1, q2, q3, hb⟩
  have hs' : w.heap.size ≤ V.heap.size := Nat.le_trans h.b.size hV.size
  exact ⟨u3, u4, u5, he, Kd.R_lower q1 hs', Kd.R_lower q2 hs', Kd.R_lower q3 hs', below_step hV hb, hb⟩
theorem playd_at {k c : Nat} {day r1 r2 r3 r7 r8 : Int} {r4 : List Int} {r5 : List S50} {r6 : List S52} {fl : List S47} {A : Option Addr} (hf : insolvencyref33_PlayDocket.f k day t1 t2 l fl = some (r1, r2, r3, r4, r5, r6, r7, r8)) (h : TB w W g t1 t2 (.slice A l.length c) l) :
    ∀ V B m, Below W.heap.size W V → Kd.C k47 V B fl.length fl → fl.length ≤ m → Calls Try.prog 31 #[.int .i64 day, .agg #[.int .i64 t1, .int .i64 t2, .slice A l.length c], .slice B fl.length m] V (PlE w W V r1 r2 r3 r7 r8 r4 r5 r6) := by
  intro V B m hV hC hm
  refine (insolvencyref33_PlayDocket.calls k day t1 t2 A c l B m fl r1 r2 r3 r4 r5 r6 r7 r8 V (Kd.C_below (Kd.R_reads' h.r).2.2 hV) (Kd.R_reads' h.r).2.1 hC hm hf).mono ?_
  rintro e w' ⟨u3, u4, u5, he, q1, q2, q3, hb⟩
  have hs' : w.heap.size ≤ V.heap.size := Nat.le_trans h.b.size hV.size
  exact ⟨u3, u4, u5, he, Kd.R_lower q1 hs', Kd.R_lower q2 hs', Kd.R_lower q3 hs', below_step hV hb, hb⟩
theorem fils_at {k c : Nat} {A : Option Addr} {xs : List S83} {fl : List S47} (hf : insolvencylaw0_Filings.f k xs = some fl) (hr : Kd.C k83 w A xs.length xs) (hc : xs.length ≤ c) : ∀ W V, Below w.heap.size w W → Below W.heap.size W V → Calls Try.prog 30 #[.slice A xs.length c] V fun e w' => ∃ u, e = .returned u ∧ Kd.R k47 47 w' w.heap.size (fun _ => True) u fl ∧ Below W.heap.size W w' ∧ Below V.heap.size V w' := by
  intro W V hW hV
  refine (insolvencylaw0_Filings.calls k A c xs fl V (Kd.C_below hr (below_step hW hV)) hc hf).mono ?_
  rintro e w' ⟨u, he, q, hb⟩
  exact ⟨u, he, Kd.R_lower q (below_step hW hV).size, below_step hV hb, hb⟩
theorem mats_at {k c : Nat} {A : Option Addr} {xs : List S83} {fl : List S47} (hf : law0_Matters.f k xs = some fl) (hr : Kd.C k83 w A xs.length xs) (hc : xs.length ≤ c) : ∀ W V, Below w.heap.size w W → Below W.heap.size W V → Calls Try.prog 19 #[.slice A xs.length c] V fun e w' => ∃ u, e = .returned u ∧ Kd.R k47 47 w' w.heap.size (fun _ => True) u fl ∧ Below W.heap.size W w' ∧ Below V.heap.size V w' := by
  intro W V hW hV
  refine (law0_Matters.calls k A c xs fl V (Kd.C_below hr (below_step hW hV)) hc hf).mono ?_
  rintro e w' ⟨u, he, q, hb⟩
  exact ⟨u, he, Kd.R_lower q (below_step hW hV).size, below_step hV hb, hb⟩
end
end Go.Proofs.Ytpfiecjacpbhkaa.D

/- insolvencylaw33.DocketPlay: the walk by hand. -/
namespace Go.Proofs.Ytpfiecjacpbhkaa.D
open Go.RowKit Go.Proofs.YtpfiecjacpbhkaaW.PrintWords Go.Proofs.YtpfiecjacpbhkaaW.PrintLast Go.Proofs.YtpfiecjacpbhkaaW.PrintMore
set_option linter.unusedVariables false
set_option linter.unusedSimpArgs false

set_option maxHeartbeats 16000000 in
set_option maxRecDepth 100000 in
theorem insolvencylaw33_DocketPlay.calls (k : Nat) (a0 : Int) (a1_0 : Int) (a1_1 : Int) (A2 : Option Addr) (c2 : Nat) (l2 : List Int) (A3 : Option Addr) (c3 : Nat) (l3 : List S83) (A4 : Option Addr) (c4 : Nat) (l4 : List S83) (a5 : Int) (r : Bool) (w : World) (hr2 : Kd.C (Kd.int .u16) w A2 l2.length l2) (hc2 : l2.length ≤ c2) (hr3 : Kd.C k83 w A3 l3.length l3) (hc3 : l3.length ≤ c3) (hr4 : Kd.C k83 w A4 l4.length l4) (hc4 : l4.length ≤ c4) (h : insolvencylaw33_DocketPlay.f k a0 a1_0 a1_1 l2 l3 l4 a5 = some r) :
    Calls Try.prog 10 #[.int .u8 a0, .agg #[.int .u8 a1_0, .int .u8 a1_1], .slice A2 l2.length c2, .slice A3 l3.length c3, .slice A4 l4.length c4, .int .i64 a5] w fun e w' => e = .returned (.bool r) ∧ Below w.heap.size w w' := by
  have hu := Try.underlying30
  have hu2 := Try.underlying27
  have hu3 := Try.underlying22
  obtain ⟨t1, t2, t3, fl, ml, a1, a2, a3, ah, am, ar, an, ae, b1, b2, b3, bh, bm, br, p1, p2, p3, ph, pm, pr, pn, pe, q1, q2, q3, qh, qm, qr, x1, x2, x3, xh, xm, xr, xn, xe, y1, y2, y3, yh, ym, yr, ye, hT, hF, hM, hA, hB, hs1, hs2, hP, hQ, hs3, hs4, hX, hY, hw, rfl⟩ := dplay_out h
  clear h
  have hW := insolvencylaw33_awake.calls k true
  have hFil := fils_at hF hr3 hc3
  have hMat := mats_at hM hr4 hc4
  have HS1 := Aside0.mk hs1
  have HS2 := Aside0.mk hs2
  have HS3 := Aside0.mk hs3
  have HS4 := Aside0.mk hs4
  have HA := Aside0.mk hA
  have HB := Aside0.mk hB
  have HP := Aside0.mk hP
  have HQ := Aside0.mk hQ
  have HX := Aside0.mk hX
  have HY := Aside0.mk hY
  have HW := Aside0.mk hw
  clear hs1 hs2 hs3 hs4 hA hB hP hQ hX hY hF hM hr3 hr4 hw
  have B0 := below_alloc (Below.refl w.heap.size w) (.cells #[.int .u8 a1_0, .int .u8 a1_1] 22 (0, 0))
  have hcT := insolvencylaw0_Terms.calls k a1_0 a1_1 A2 c2 l2 t1 t2 t3 _ (Kd.C_below hr2 B0) hc2 hT
  clear hr2 hc2 hT
  obtain ⟨day, hday⟩ : ∃ day, IntKind.i64.wrap (Int.tmod a0 4) = day := ⟨_, rfl⟩
  rw [hday] at HA HB
  go_enter Try.func10, Try.ntmps10
  go_upto_region 2 with (go_at_call 18; change Calls _ _ _ (w.alloc (.cells #[.int .u8 a1_0, .int .u8 a1_1] 22 (0, 0))) _; refine hcT.mono ?_; rintro e w2 ⟨v3, rfl, hv3, hb2⟩; obtain ⟨AT, cT, rfl⟩ := Kd.R_slice hv3)
  have T1 : TB w (w2.alloc (.cells #[.int .i64 t1, .int .i64 t2, .slice AT t3.length cT] 27 (0, 0))) w2.heap.size t1 t2 (.slice AT t3.length cT) t3 :=
    ⟨below_alloc (below_step B0 hb2) _, blk_new w2 _, Kd.R_alloc (Kd.R_lower hv3 B0.size) _⟩
  generalize w2.alloc (.cells #[.int .i64 t1, .int .i64 t2, .slice AT t3.length cT] 27 (0, 0)) = wr at *
  generalize w2.heap.size = gT at *
  clear hcT hv3 hb2 B0
  have TT := Aside0.mk T1
  clear T1
  go_cut [14, 15, 16, 17] (fun s14 s15 s16 s17 wx => ∃ (g : Nat) (v3 v4 : Value), s14 = .pointer (some ⟨g, 0, none⟩) ∧ s16 = .int .i64 an ∧ s17 = .int .i64 ae ∧ Aside0 (TB w wx gT t1 t2 (.slice AT t3.length cT) t3) ∧ Aside0 (DkB w wx g a1 a2 a3 v3 v4 s15 ah am ar))
  case first =>
    have bw := TT.out.b
    have hPl : ∀ V B m, Below wr.heap.size wr V → Kd.C k47 V B fl.length fl → fl.length ≤ m → Calls Try.prog 29 #[.int .i64 day, .agg #[.int .i64 t1, .int .i64 t2, .slice AT t3.length cT], .slice B fl.length m] V (PlE w wr V a1 a2 a3 an ae ah am ar) := play_at HA.out TT.out
    obtain ⟨o0, o1, o2⟩ := cells3 ⟨TT.out.o⟩
    obtain ⟨o0', o1', o2'⟩ : wr.drew.cell? ⟨gT, 0, none⟩ = some (.int .i64 t1) ∧ wr.drew.cell? ⟨gT, 1, none⟩ = some (.int .i64 t2) ∧ wr.drew.cell? ⟨gT, 2, none⟩ = some (.slice AT t3.length cT) := ⟨o0, o1, o2⟩
    have nn1 := World.new_ne wr _ o0
    have hday' : IntKind.i64.wrap (Int.tmod a0 4) = day := hday
    go_region_held3 (fun w_ => w_.cell? ⟨gT, 0, none⟩ = some (.int .i64 t1) ∧ w_.cell? ⟨gT, 1, none⟩ = some (.int .i64 t2) ∧ w_.cell? ⟨gT, 2, none⟩ = some (.slice AT t3.length cT)) (first | (with_reducible exact ⟨o0, o1, o2⟩) | (with_reducible exact ⟨o0', o1', o2'⟩) | (with_reducible exact ⟨k0', k1', k2'⟩) | (with_reducible exact ⟨m0', m1', m2'⟩) | go_keep)
      (first
        | (go_at_call 30; refine (hFil wr _ bw (by repeat (first | exact Below.refl _ _ | apply below_drew1 | apply below_alloc | apply pw_below_drewN))).mono ?_; rintro e w5 ⟨fv, rfl, hfv, hb5, hv5⟩; obtain ⟨AF, cF, rfl⟩ := Kd.R_slice hfv; have k0' := pw_cell_below hb5 o0; have k1' := pw_cell_below hb5 o1; have k2' := pw_cell_below hb5 o2; have nn5 := World.new_ne w5 _ k0'
           try (have KN5 : w5.heap[wr.heap.size]? = some (.cells #[.int .i64 0, .int .i64 0, .int .i64 0, .slice none 0 0, .slice none 0 0] 30 (0, 0)) := blk_below (w := (wr.alloc (.cells #[.int .i64 0, .int .i64 0, .int .i64 0, .slice none 0 0, .slice none 0 0] 30 (0, 0))).drew) (blk_drew (blk_new wr _)) (by with_reducible exact hv5)))
        | (go_at_call 29; refine (hPl _ AF cF (by repeat (first | exact hb5 | apply below_drew1 | apply below_alloc | apply pw_below_drewN)) (by repeat (first | exact (Kd.R_reads' hfv).2.2 | (with_reducible refine Kd.C_alloc ?_ _) | (with_reducible refine Kd.C_drewN ?_ _) | (with_reducible refine Kd.C_drew ?_))) (Kd.R_reads' hfv).2.1).mono ?_; rintro e w6 ⟨z3, z4, z5, rfl, hz3, hz4, hz5, hb6, hv6⟩; obtain ⟨D3, d3, rfl⟩ := Kd.R_slice hz3; obtain ⟨D4, d4, rfl⟩ := Kd.R_slice hz4; obtain ⟨D5, d5, rfl⟩ := Kd.R_slice hz5; have m0' := pw_cell_below hb6 o0; have m1' := pw_cell_below hb6 o1; have m2' := pw_cell_below hb6 o2; have nn6 := World.new_ne w6 _ m0'
           first | (have KN6 : w6.heap[wr.heap.size]? = some (.cells #[.int .i64 0, .int .i64 0, .int .i64 0, .slice none 0 0, .slice none 0 0] 30 (0, 0)) := blk_below KN5 hv6; obtain ⟨z0, z1, z2, z3, z4⟩ := cells5 ⟨KN6⟩; obtain ⟨y0, y1, y2, y3, y4⟩ := frz5 ⟨KN6⟩) | (have KN6 : w6.heap[w5.heap.size]? = some (.cells #[.int .i64 0, .int .i64 0, .int .i64 0, .slice none 0 0, .slice none 0 0] 30 (0, 0)) := blk_below (w := w5.alloc (.cells #[.int .i64 0, .int .i64 0, .int .i64 0, .slice none 0 0, .slice none 0 0] 30 (0, 0))) (blk_new w5 _) (by with_reducible exact hv6); obtain ⟨z0, z1, z2, z3, z4⟩ := cells5 ⟨KN6⟩; obtain ⟨y0, y1, y2, y3, y4⟩ := frz5 ⟨KN6⟩) | skip))
    · have T7 := Aside0.mk ((TT.out.below hb6).below (below_alloc (Below.refl w6.heap.size w6) (.cells #[.int .i64 a1, .int .i64 a2, .int .i64 a3, .slice D3 ah.length d3, .slice D4 am.length d4] 30 (0, 0))))
      have D7 := Aside0.mk (DkB.new (below_step bw hb6).size hz3 hz4 hz5 : DkB w _ _ a1 a2 a3 (.slice D3 ah.length d3) (.slice D4 am.length d4) (.slice D5 ar.length d5) ah am ar)
      change Exit.then _ _ _ _ (w6.alloc (.cells #[.int .i64 a1, .int .i64 a2, .int .i64 a3, .slice D3 ah.length d3, .slice D4 am.length d4] 30 (0, 0)))
      generalize w6.alloc (.cells #[.int .i64 a1, .int .i64 a2, .int .i64 a3, .slice D3 ah.length d3, .slice D4 am.length d4] 30 (0, 0)) = W7 at *
      generalize w6.heap.size = g7 at *
      clear o0 o1 o2 o0' o1' o2' k0' k1' k2' m0' m1' m2' nn1 nn5 nn6 hPl hb5 hb6 hv5 hv6 hz3 hz4 hz5 hfv bw hday'
      try clear z0 z1 z2 z3 z4 y0 y1 y2 y3 y4 KN6
      try clear KN5
      go_wp2_with (fail)
      go_meet
      case rel => exact ⟨g7, _, _, rfl, rfl, rfl, T7, D7⟩
    · have T7 := Aside0.mk ((TT.out.below hb6).fiv KN6 (below_step bw hb5).size (.int .i64 a1) (.int .i64 a2) (.int .i64 a3) (.slice D3 ah.length d3) (.slice D4 am.length d4))
      have D7 := Aside0.mk (DkB.put KN6 (below_step bw hb5).size hz3 hz4 hz5 : DkB w _ _ a1 a2 a3 (.slice D3 ah.length d3) (.slice D4 am.length d4) (.slice D5 ar.length d5) ah am ar)
      change Exit.then _ _ _ _ (five w6 w5.heap.size (.int .i64 a1) (.int .i64 a2) (.int .i64 a3) (.slice D3 ah.length d3) (.slice D4 am.length d4))
      generalize five w6 w5.heap.size (.int .i64 a1) (.int .i64 a2) (.int .i64 a3) (.slice D3 ah.length d3) (.slice D4 am.length d4) = W7 at *
      generalize w5.heap.size = g7 at *
      clear o0 o1 o2 o0' o1' o2' k0' k1' k2' m0' m1' m2' nn1 nn5 nn6 hPl hb5 hb6 hv5 hv6 hz3 hz4 hz5 hfv bw hday'
      try clear z0 z1 z2 z3 z4 y0 y1 y2 y3 y4 KN6
      try clear KN5
      go_wp2_with (fail)
      go_meet
      case rel => exact ⟨g7, _, _, rfl, rfl, rfl, T7, D7⟩
    · have T7 := Aside0.mk ((TT.out.below hb6).fiv KN6 bw.size (.int .i64 a1) (.int .i64 a2) (.int .i64 a3) (.slice D3 ah.length d3) (.slice D4 am.length d4))
      have D7 := Aside0.mk (DkB.put KN6 bw.size hz3 hz4 hz5 : DkB w _ _ a1 a2 a3 (.slice D3 ah.length d3) (.slice D4 am.length d4) (.slice D5 ar.length d5) ah am ar)
      change Exit.then _ _ _ _ (five w6 wr.heap.size (.int .i64 a1) (.int .i64 a2) (.int .i64 a3) (.slice D3 ah.length d3) (.slice D4 am.length d4))
      generalize five w6 wr.heap.size (.int .i64 a1) (.int .i64 a2) (.int .i64 a3) (.slice D3 ah.length d3) (.slice D4 am.length d4) = W7 at *
      generalize wr.heap.size = g7 at *
      clear o0 o1 o2 o0' o1' o2' k0' k1' k2' m0' m1' m2' nn1 nn5 nn6 hPl hb5 hb6 hv5 hv6 hz3 hz4 hz5 hfv bw hday'
      try clear z0 z1 z2 z3 z4 y0 y1 y2 y3 y4 KN6
      try clear KN5
      go_wp2_with (fail)
      go_meet
      case rel => exact ⟨g7, _, _, rfl, rfl, rfl, T7, D7⟩
  case rest =>
  clear TT HA
  obtain ⟨gD, va3, va4, rfl, rfl, rfl, TT, DD⟩ := hcut
  generalize u15 = va5 at *
  go_upto_region 3 with (fail)
  generalize wc = wd at *
  go_cut [18, 19, 20, 21] (fun s18 s19 s20 s21 wx => ∃ (g : Nat) (v3 v4 : Value), s18 = .pointer (some ⟨g, 0, none⟩) ∧ s20 = .int .i64 an ∧ s21 = .int .i64 ae ∧ Aside0 (TB w wx gT t1 t2 (.slice AT t3.length cT) t3) ∧ Aside0 (DkB w wx gD a1 a2 a3 va3 va4 va5 ah am ar) ∧ Aside0 (gD ≠ g) ∧ Aside0 (DkB w wx g b1 b2 b3 v3 v4 s19 bh bm br))
  case first =>
    have bw := TT.out.b
    have hPl : ∀ V B m, Below wd.heap.size wd V → Kd.C k47 V B fl.length fl → fl.length ≤ m → Calls Try.prog 31 #[.int .i64 day, .agg #[.int .i64 t1, .int .i64 t2, .slice AT t3.length cT], .slice B fl.length m] V (PlE w wd V b1 b2 b3 an ae bh bm br) := playd_at HB.out TT.out
    obtain ⟨o0, o1, o2⟩ := cells3 ⟨TT.out.o⟩
    obtain ⟨o0', o1', o2'⟩ : wd.drew.cell? ⟨gT, 0, none⟩ = some (.int .i64 t1) ∧ wd.drew.cell? ⟨gT, 1, none⟩ = some (.int .i64 t2) ∧ wd.drew.cell? ⟨gT, 2, none⟩ = some (.slice AT t3.length cT) := ⟨o0, o1, o2⟩
    have nn1 := World.new_ne wd _ o0
    have hday' : IntKind.i64.wrap (Int.tmod a0 4) = day := hday
    go_region_held3 (fun w_ => w_.cell? ⟨gT, 0, none⟩ = some (.int .i64 t1) ∧ w_.cell? ⟨gT, 1, none⟩ = some (.int .i64 t2) ∧ w_.cell? ⟨gT, 2, none⟩ = some (.slice AT t3.length cT)) (first | (with_reducible exact ⟨o0, o1, o2⟩) | (with_reducible exact ⟨o0', o1', o2'⟩) | (with_reducible exact ⟨k0', k1', k2'⟩) | (with_reducible exact ⟨m0', m1', m2'⟩) | go_keep)
      (first
        | (go_at_call 30; refine (hFil wd _ bw (by repeat (first | exact Below.refl _ _ | apply below_drew1 | apply below_alloc | apply pw_below_drewN))).mono ?_; rintro e w5 ⟨fv, rfl, hfv, hb5, hv5⟩; obtain ⟨AF, cF, rfl⟩ := Kd.R_slice hfv; have k0' := pw_cell_below hb5 o0; have k1' := pw_cell_below hb5 o1; have k2' := pw_cell_below hb5 o2; have nn5 := World.new_ne w5 _ k0'
           try (have KN5 : w5.heap[wd.heap.size]? = some (.cells #[.int .i64 0, .int .i64 0, .int .i64 0, .slice none 0 0, .slice none 0 0] 30 (0, 0)) := blk_below (w := (wd.alloc (.cells #[.int .i64 0, .int .i64 0, .int .i64 0, .slice none 0 0, .slice none 0 0] 30 (0, 0))).drew) (blk_drew (blk_new wd _)) (by with_reducible exact hv5)))
        | (go_at_call 31; refine (hPl _ AF cF (by repeat (first | exact hb5 | apply below_drew1 | apply below_alloc | apply pw_below_drewN)) (by repeat (first | exact (Kd.R_reads' hfv).2.2 | (with_reducible refine Kd.C_alloc ?_ _) | (with_reducible refine Kd.C_drewN ?_ _) | (with_reducible refine Kd.C_drew ?_))) (Kd.R_reads' hfv).2.1).mono ?_; rintro e w6 ⟨z3, z4, z5, rfl, hz3, hz4, hz5, hb6, hv6⟩; obtain ⟨D3, d3, rfl⟩ := Kd.R_slice hz3; obtain ⟨D4, d4, rfl⟩ := Kd.R_slice hz4; obtain ⟨D5, d5, rfl⟩ := Kd.R_slice hz5; have m0' := pw_cell_below hb6 o0; have m1' := pw_cell_below hb6 o1; have m2' := pw_cell_below hb6 o2; have nn6 := World.new_ne w6 _ m0'
           first | (have KN6 : w6.heap[wd.heap.size]? = some (.cells #[.int .i64 0, .int .i64 0, .int .i64 0, .slice none 0 0, .slice none 0 0] 30 (0, 0)) := blk_below KN5 hv6; obtain ⟨z0, z1, z2, z3, z4⟩ := cells5 ⟨KN6⟩; obtain ⟨y0, y1, y2, y3, y4⟩ := frz5 ⟨KN6⟩) | (have KN6 : w6.heap[w5.heap.size]? = some (.cells #[.int .i64 0, .int .i64 0, .int .i64 0, .slice none 0 0, .slice none 0 0] 30 (0, 0)) := blk_below (w := w5.alloc (.cells #[.int .i64 0, .int .i64 0, .int .i64 0, .slice none 0 0, .slice none 0 0] 30 (0, 0))) (blk_new w5 _) (by with_reducible exact hv6); obtain ⟨z0, z1, z2, z3, z4⟩ := cells5 ⟨KN6⟩; obtain ⟨y0, y1, y2, y3, y4⟩ := frz5 ⟨KN6⟩) | skip))
    · have T7 := Aside0.mk ((TT.out.below hb6).below (below_alloc (Below.refl w6.heap.size w6) (.cells #[.int .i64 b1, .int .i64 b2, .int .i64 b3, .slice D3 bh.length d3, .slice D4 bm.length d4] 30 (0, 0))))
      have K07 := Aside0.mk ((DD.out.below hb6).below (below_alloc (Below.refl w6.heap.size w6) (.cells #[.int .i64 b1, .int .i64 b2, .int .i64 b3, .slice D3 bh.length d3, .slice D4 bm.length d4] 30 (0, 0))))
      have D7 := Aside0.mk (DkB.new (below_step bw hb6).size hz3 hz4 hz5 : DkB w _ _ b1 b2 b3 (.slice D3 bh.length d3) (.slice D4 bm.length d4) (.slice D5 br.length d5) bh bm br)
      change Exit.then _ _ _ _ (w6.alloc (.cells #[.int .i64 b1, .int .i64 b2, .int .i64 b3, .slice D3 bh.length d3, .slice D4 bm.length d4] 30 (0, 0)))
      have hnD : Aside0 (gD ≠ w6.heap.size) := ⟨Nat.ne_of_lt (Nat.lt_of_lt_of_le (blk_lt DD.out.o) hb6.size)⟩
      generalize w6.alloc (.cells #[.int .i64 b1, .int .i64 b2, .int .i64 b3, .slice D3 bh.length d3, .slice D4 bm.length d4] 30 (0, 0)) = W7 at *
      generalize w6.heap.size = g7 at *
      clear o0 o1 o2 o0' o1' o2' k0' k1' k2' m0' m1' m2' nn1 nn5 nn6 hPl hb5 hb6 hv5 hv6 hz3 hz4 hz5 hfv bw hday'
      try clear z0 z1 z2 z3 z4 y0 y1 y2 y3 y4 KN6
      try clear KN5
      go_wp2_with (fail)
      go_meet
      case rel => exact ⟨g7, _, _, rfl, rfl, rfl, T7, K07, hnD, D7⟩
    · have T7 := Aside0.mk ((TT.out.below hb6).fiv KN6 (below_step bw hb5).size (.int .i64 b1) (.int .i64 b2) (.int .i64 b3) (.slice D3 bh.length d3) (.slice D4 bm.length d4))
      have K07 := Aside0.mk ((DD.out.below hb6).fiv KN6 (Nat.ne_of_lt (Nat.lt_of_lt_of_le (blk_lt DD.out.o) hb5.size)) (.int .i64 b1) (.int .i64 b2) (.int .i64 b3) (.slice D3 bh.length d3) (.slice D4 bm.length d4))
      have D7 := Aside0.mk (DkB.put KN6 (below_step bw hb5).size hz3 hz4 hz5 : DkB w _ _ b1 b2 b3 (.slice D3 bh.length d3) (.slice D4 bm.length d4) (.slice D5 br.length d5) bh bm br)
      change Exit.then _ _ _ _ (five w6 w5.heap.size (.int .i64 b1) (.int .i64 b2) (.int .i64 b3) (.slice D3 bh.length d3) (.slice D4 bm.length d4))
      have hnD : Aside0 (gD ≠ w5.heap.size) := ⟨Nat.ne_of_lt (Nat.lt_of_lt_of_le (blk_lt DD.out.o) hb5.size)⟩
      generalize five w6 w5.heap.size (.int .i64 b1) (.int .i64 b2) (.int .i64 b3) (.slice D3 bh.length d3) (.slice D4 bm.length d4) = W7 at *
      generalize w5.heap.size = g7 at *
      clear o0 o1 o2 o0' o1' o2' k0' k1' k2' m0' m1' m2' nn1 nn5 nn6 hPl hb5 hb6 hv5 hv6 hz3 hz4 hz5 hfv bw hday'
      try clear z0 z1 z2 z3 z4 y0 y1 y2 y3 y4 KN6
      try clear KN5
      go_wp2_with (fail)
      go_meet
      case rel => exact ⟨g7, _, _, rfl, rfl, rfl, T7, K07, hnD, D7⟩
    · have T7 := Aside0.mk ((TT.out.below hb6).fiv KN6 bw.size (.int .i64 b1) (.int .i64 b2) (.int .i64 b3) (.slice D3 bh.length d3) (.slice D4 bm.length d4))
      have K07 := Aside0.mk ((DD.out.below hb6).fiv KN6 (Nat.ne_of_lt (Nat.lt_of_lt_of_le (blk_lt DD.out.o) (Nat.le_refl _))) (.int .i64 b1) (.int .i64 b2) (.int .i64 b3) (.slice D3 bh.length d3) (.slice D4 bm.length d4))
      have D7 := Aside0.mk (DkB.put KN6 bw.size hz3 hz4 hz5 : DkB w _ _ b1 b2 b3 (.slice D3 bh.length d3) (.slice D4 bm.length d4) (.slice D5 br.length d5) bh bm br)
      change Exit.then _ _ _ _ (five w6 wd.heap.size (.int .i64 b1) (.int .i64 b2) (.int .i64 b3) (.slice D3 bh.length d3) (.slice D4 bm.length d4))
      have hnD : Aside0 (gD ≠ wd.heap.size) := ⟨Nat.ne_of_lt (Nat.lt_of_lt_of_le (blk_lt DD.out.o) (Nat.le_refl _))⟩
      generalize five w6 wd.heap.size (.int .i64 b1) (.int .i64 b2) (.int .i64 b3) (.slice D3 bh.length d3) (.slice D4 bm.length d4) = W7 at *
      generalize wd.heap.size = g7 at *
      clear o0 o1 o2 o0' o1' o2' k0' k1' k2' m0' m1' m2' nn1 nn5 nn6 hPl hb5 hb6 hv5 hv6 hz3 hz4 hz5 hfv bw hday'
      try clear z0 z1 z2 z3 z4 y0 y1 y2 y3 y4 KN6
      try clear KN5
      go_wp2_with (fail)
      go_meet
      case rel => exact ⟨g7, _, _, rfl, rfl, rfl, T7, K07, hnD, D7⟩
  case rest =>
  clear TT DD HB hFil hday
  obtain ⟨gE, vb3, vb4, rfl, rfl, rfl, TT, DD, nDE, EE⟩ := hcut
  generalize u19 = vb5 at *
  obtain ⟨E3, e3, rfl⟩ := Kd.R_slice DD.out.r3
  obtain ⟨E4, e4, rfl⟩ := Kd.R_slice DD.out.r4
  obtain ⟨E5, e5, rfl⟩ := Kd.R_slice DD.out.r5
  obtain ⟨F3, f3, rfl⟩ := Kd.R_slice EE.out.r3
  obtain ⟨F4, f4, rfl⟩ := Kd.R_slice EE.out.r4
  obtain ⟨F5, f5, rfl⟩ := Kd.R_slice EE.out.r5
  obtain ⟨o0, o1, o2, o3, o4⟩ := cells5 ⟨DD.out.o⟩
  obtain ⟨y0, y1, y2, y3, y4⟩ := cells5 ⟨EE.out.o⟩
  have hc15 := insolvencyref33_SameDocket.calls k a1 a2 a3 E3 e3 ah E4 e4 am b1 b2 b3 F3 f3 bh F4 f4 bm true wc (Kd.R_reads' DD.out.r3).2.2 (Kd.R_reads' DD.out.r3).2.1 (Kd.R_reads' DD.out.r4).2.2 (Kd.R_reads' DD.out.r4).2.1 (Kd.R_reads' EE.out.r3).2.2 (Kd.R_reads' EE.out.r3).2.1 (Kd.R_reads' EE.out.r4).2.2 (Kd.R_reads' EE.out.r4).2.1 HS1.out
  have hc16 := fun V (hV : Below wc.heap.size wc V) => insolvencyref33_SameRulings.calls k E5 e5 ar F5 f5 br true V (Kd.C_below (Kd.R_reads' DD.out.r5).2.2 hV) (Kd.R_reads' DD.out.r5).2.1 (Kd.C_below (Kd.R_reads' EE.out.r5).2.2 hV) (Kd.R_reads' EE.out.r5).2.1 HS2.out
  go_upto_region 6 with (first | (go_at_call 15; refine hc15.mono ?_; rintro e w7 ⟨rfl, hb7⟩) | (go_at_call 16; refine (hc16 _ hb7).mono ?_; rintro e w8 ⟨rfl, hb8⟩))
  replace TT := Aside0.mk (TT.out.below (below_step hb7 hb8.below))
  replace DD := Aside0.mk (DD.out.below (below_step hb7 hb8.below))
  replace EE := Aside0.mk (EE.out.below (below_step hb7 hb8.below))
  clear o0 o1 o2 o3 o4 y0 y1 y2 y3 y4 hc15 hc16 hb7 hb8 HS1 HS2
  generalize w8 = wf at *
  go_cut [15, 16, 17] (fun s15 s16 s17 wx => ∃ (v3 v4 : Value), s16 = .int .i64 pn ∧ s17 = .int .i64 pe ∧ Aside0 (TB w wx gT t1 t2 (.slice AT t3.length cT) t3) ∧ Aside0 (DkB w wx gE b1 b2 b3 (.slice F3 bh.length f3) (.slice F4 bm.length f4) (.slice F5 br.length f5) bh bm br) ∧ Aside0 (DkB w wx gD p1 p2 p3 v3 v4 s15 ph pm pr))
  case first =>
    have bw := TT.out.b
    have hPl : ∀ V B m, Below wf.heap.size wf V → Kd.C k47 V B ml.length ml → ml.length ≤ m → Calls Try.prog 29 #[.int .i64 0, .agg #[.int .i64 t1, .int .i64 t2, .slice AT t3.length cT], .slice B ml.length m] V (PlE w wf V p1 p2 p3 pn pe ph pm pr) := play_at HP.out TT.out
    obtain ⟨o0, o1, o2⟩ := cells3 ⟨TT.out.o⟩
    obtain ⟨o0', o1', o2'⟩ : wf.drew.cell? ⟨gT, 0, none⟩ = some (.int .i64 t1) ∧ wf.drew.cell? ⟨gT, 1, none⟩ = some (.int .i64 t2) ∧ wf.drew.cell? ⟨gT, 2, none⟩ = some (.slice AT t3.length cT) := ⟨o0, o1, o2⟩
    have nn1 := World.new_ne wf _ o0
    go_region_held3 (fun w_ => w_.cell? ⟨gT, 0, none⟩ = some (.int .i64 t1) ∧ w_.cell? ⟨gT, 1, none⟩ = some (.int .i64 t2) ∧ w_.cell? ⟨gT, 2, none⟩ = some (.slice AT t3.length cT)) (first | (with_reducible exact ⟨o0, o1, o2⟩) | (with_reducible exact ⟨o0', o1', o2'⟩) | (with_reducible exact ⟨k0', k1', k2'⟩) | (with_reducible exact ⟨m0', m1', m2'⟩) | exact ⟨s0', s1', s2'⟩ | go_keep)
      (first
        | (go_at_call 19; refine (hMat wf _ bw (by repeat (first | exact Below.refl _ _ | apply below_drew1 | apply below_alloc | apply pw_below_drewN))).mono ?_; rintro e w5 ⟨fv, rfl, hfv, hb5, hv5⟩; obtain ⟨AF, cF, rfl⟩ := Kd.R_slice hfv; have k0' := pw_cell_below hb5 o0; have k1' := pw_cell_below hb5 o1; have k2' := pw_cell_below hb5 o2; have nn5 := World.new_ne w5 _ k0')
        | (go_at_call 29; refine (hPl _ AF cF (by repeat (first | exact hb5 | apply below_drew1 | apply below_alloc | apply pw_below_drewN)) (by repeat (first | exact (Kd.R_reads' hfv).2.2 | (with_reducible refine Kd.C_alloc ?_ _) | (with_reducible refine Kd.C_drewN ?_ _) | (with_reducible refine Kd.C_drew ?_))) (Kd.R_reads' hfv).2.1).mono ?_; rintro e w6 ⟨z3, z4, z5, rfl, hz3, hz4, hz5, hb6, hv6⟩; obtain ⟨D3, d3, rfl⟩ := Kd.R_slice hz3; obtain ⟨D4, d4, rfl⟩ := Kd.R_slice hz4; obtain ⟨D5, d5, rfl⟩ := Kd.R_slice hz5; have m0' := pw_cell_below hb6 o0; have m1' := pw_cell_below hb6 o1; have m2' := pw_cell_below hb6 o2; have nn6 := World.new_ne w6 _ m0'
           have KN6 := blk_below DD.out.o hb6; obtain ⟨z0, z1, z2, z3, z4⟩ := cells5 ⟨KN6⟩; obtain ⟨y0, y1, y2, y3, y4⟩ := frz5 ⟨KN6⟩; obtain ⟨s0', s1', s2'⟩ := cells3 ⟨((TT.out.below hb6).fiv KN6 DD.out.g0 (.int .i64 p1) (.int .i64 p2) (.int .i64 p3) (.slice D3 ph.length d3) (.slice D4 pm.length d4)).o⟩))
    · have T7 := Aside0.mk ((TT.out.below hb6).fiv KN6 DD.out.g0 (.int .i64 p1) (.int .i64 p2) (.int .i64 p3) (.slice D3 ph.length d3) (.slice D4 pm.length d4))
      have K07 := Aside0.mk ((EE.out.below hb6).fiv KN6 (Ne.symm nDE.out) (.int .i64 p1) (.int .i64 p2) (.int .i64 p3) (.slice D3 ph.length d3) (.slice D4 pm.length d4))
      have D7 := Aside0.mk (DkB.put KN6 DD.out.g0 hz3 hz4 hz5 : DkB w _ _ p1 p2 p3 (.slice D3 ph.length d3) (.slice D4 pm.length d4) (.slice D5 pr.length d5) ph pm pr)
      change Exit.then _ _ _ _ (five w6 gD (.int .i64 p1) (.int .i64 p2) (.int .i64 p3) (.slice D3 ph.length d3) (.slice D4 pm.length d4))
      generalize five w6 gD (.int .i64 p1) (.int .i64 p2) (.int .i64 p3) (.slice D3 ph.length d3) (.slice D4 pm.length d4) = W7 at *
      clear o0 o1 o2 o0' o1' o2' k0' k1' k2' m0' m1' m2' nn1 nn5 nn6 hPl hb5 hb6 hv5 hv6 hz3 hz4 hz5 hfv bw
      clear s0' s1' s2'
      try clear z0 z1 z2 z3 z4 y0 y1 y2 y3 y4 KN6
      go_wp2_with (fail)
      go_meet
      case rel => exact ⟨_, _, rfl, rfl, T7, K07, D7⟩
  case rest =>
  clear TT DD EE HP
  obtain ⟨vc3, vc4, rfl, rfl, TT, EE, DD⟩ := hcut
  generalize u15 = vc5 at *
  go_upto_region 7 with (fail)
  generalize wc = wg at *
  go_cut [19, 20, 21] (fun s19 s20 s21 wx => ∃ (v3 v4 : Value), s20 = .int .i64 pn ∧ s21 = .int .i64 pe ∧ Aside0 (TB w wx gT t1 t2 (.slice AT t3.length cT) t3) ∧ Aside0 (DkB w wx gD p1 p2 p3 vc3 vc4 vc5 ph pm pr) ∧ Aside0 (DkB w wx gE q1 q2 q3 v3 v4 s19 qh qm qr))
  case first =>
    have bw := TT.out.b
    have hPl : ∀ V B m, Below wg.heap.size wg V → Kd.C k47 V B ml.length ml → ml.length ≤ m → Calls Try.prog 31 #[.int .i64 0, .agg #[.int .i64 t1, .int .i64 t2, .slice AT t3.length cT], .slice B ml.length m] V (PlE w wg V q1 q2 q3 pn pe qh qm qr) := playd_at HQ.out TT.out
    obtain ⟨o0, o1, o2⟩ := cells3 ⟨TT.out.o⟩
    obtain ⟨o0', o1', o2'⟩ : wg.drew.cell? ⟨gT, 0, none⟩ = some (.int .i64 t1) ∧ wg.drew.cell? ⟨gT, 1, none⟩ = some (.int .i64 t2) ∧ wg.drew.cell? ⟨gT, 2, none⟩ = some (.slice AT t3.length cT) := ⟨o0, o1, o2⟩
    have nn1 := World.new_ne wg _ o0
    go_region_held3 (fun w_ => w_.cell? ⟨gT, 0, none⟩ = some (.int .i64 t1) ∧ w_.cell? ⟨gT, 1, none⟩ = some (.int .i64 t2) ∧ w_.cell? ⟨gT, 2, none⟩ = some (.slice AT t3.length cT)) (first | (with_reducible exact ⟨o0, o1, o2⟩) | (with_reducible exact ⟨o0', o1', o2'⟩) | (with_reducible exact ⟨k0', k1', k2'⟩) | (with_reducible exact ⟨m0', m1', m2'⟩) | exact ⟨s0', s1', s2'⟩ | go_keep)
      (first
        | (go_at_call 19; refine (hMat wg _ bw (by repeat (first | exact Below.refl _ _ | apply below_drew1 | apply below_alloc | apply pw_below_drewN))).mono ?_; rintro e w5 ⟨fv, rfl, hfv, hb5, hv5⟩; obtain ⟨AF, cF, rfl⟩ := Kd.R_slice hfv; have k0' := pw_cell_below hb5 o0; have k1' := pw_cell_below hb5 o1; have k2' := pw_cell_below hb5 o2; have nn5 := World.new_ne w5 _ k0')
        | (go_at_call 31; refine (hPl _ AF cF (by repeat (first | exact hb5 | apply below_drew1 | apply below_alloc | apply pw_below_drewN)) (by repeat (first | exact (Kd.R_reads' hfv).2.2 | (with_reducible refine Kd.C_alloc ?_ _) | (with_reducible refine Kd.C_drewN ?_ _) | (with_reducible refine Kd.C_drew ?_))) (Kd.R_reads' hfv).2.1).mono ?_; rintro e w6 ⟨z3, z4, z5, rfl, hz3, hz4, hz5, hb6, hv6⟩; obtain ⟨D3, d3, rfl⟩ := Kd.R_slice hz3; obtain ⟨D4, d4, rfl⟩ := Kd.R_slice hz4; obtain ⟨D5, d5, rfl⟩ := Kd.R_slice hz5; have m0' := pw_cell_below hb6 o0; have m1' := pw_cell_below hb6 o1; have m2' := pw_cell_below hb6 o2; have nn6 := World.new_ne w6 _ m0'
           have KN6 := blk_below EE.out.o hb6; obtain ⟨z0, z1, z2, z3, z4⟩ := cells5 ⟨KN6⟩; obtain ⟨y0, y1, y2, y3, y4⟩ := frz5 ⟨KN6⟩; obtain ⟨s0', s1', s2'⟩ := cells3 ⟨((TT.out.below hb6).fiv KN6 EE.out.g0 (.int .i64 q1) (.int .i64 q2) (.int .i64 q3) (.slice D3 qh.length d3) (.slice D4 qm.length d4)).o⟩))
    · have T7 := Aside0.mk ((TT.out.below hb6).fiv KN6 EE.out.g0 (.int .i64 q1) (.int .i64 q2) (.int .i64 q3) (.slice D3 qh.length d3) (.slice D4 qm.length d4))
      have K07 := Aside0.mk ((DD.out.below hb6).fiv KN6 nDE.out (.int .i64 q1) (.int .i64 q2) (.int .i64 q3) (.slice D3 qh.length d3) (.slice D4 qm.length d4))
      have D7 := Aside0.mk (DkB.put KN6 EE.out.g0 hz3 hz4 hz5 : DkB w _ _ q1 q2 q3 (.slice D3 qh.length d3) (.slice D4 qm.length d4) (.slice D5 qr.length d5) qh qm qr)
      change Exit.then _ _ _ _ (five w6 gE (.int .i64 q1) (.int .i64 q2) (.int .i64 q3) (.slice D3 qh.length d3) (.slice D4 qm.length d4))
      generalize five w6 gE (.int .i64 q1) (.int .i64 q2) (.int .i64 q3) (.slice D3 qh.length d3) (.slice D4 qm.length d4) = W7 at *
      clear o0 o1 o2 o0' o1' o2' k0' k1' k2' m0' m1' m2' nn1 nn5 nn6 hPl hb5 hb6 hv5 hv6 hz3 hz4 hz5 hfv bw
      clear s0' s1' s2'
      try clear z0 z1 z2 z3 z4 y0 y1 y2 y3 y4 KN6
      go_wp2_with (fail)
      go_meet
      case rel => exact ⟨_, _, rfl, rfl, T7, K07, D7⟩
  case rest =>
  clear TT DD EE HQ hMat
  obtain ⟨vd3, vd4, rfl, rfl, TT, DD, EE⟩ := hcut
  generalize u19 = vd5 at *
  go_upto_region 8 with (fail)
  generalize wc = wh at *
  obtain ⟨o0, o1, o2⟩ := cells3 ⟨TT.out.o⟩
  have nn1 := World.new_ne wh _ o0
  have hC0 : ∀ V, Kd.C k47 V none ([] : List S47).length [] := fun V => (Kd.R_reads' (Kd.R_nil (d := k47) (e := 47) (w := V) (base := 0) (ok := fun _ => True))).2.2
  have hX8 : ∀ V, Below wh.heap.size wh V → Calls Try.prog 29 #[.int .i64 a5, .agg #[.int .i64 t1, .int .i64 t2, .slice AT t3.length cT], .slice none 0 0] V (PlE w wh V x1 x2 x3 xn xe xh xm xr) := fun V hV => play_at HX.out TT.out V none 0 hV (hC0 V) (Nat.le_refl _)
  have hY9 : ∀ V, Below wh.heap.size wh V → Calls Try.prog 31 #[.int .i64 a5, .agg #[.int .i64 t1, .int .i64 t2, .slice AT t3.length cT], .slice none 0 0] V (PlE w wh V y1 y2 y3 xn ye yh ym yr) := fun V hV => playd_at HY.out TT.out V none 0 hV (hC0 V) (Nat.le_refl _)
  clear hC0
  go_upto_region 9 with (go_at_call 29; refine (hX8 _ (Below.refl _ _)).mono ?_; rintro e w8 ⟨z3, z4, z5, rfl, hz3, hz4, hz5, hb8, hv8⟩; obtain ⟨D3, d3, rfl⟩ := Kd.R_slice hz3; obtain ⟨D4, d4, rfl⟩ := Kd.R_slice hz4; obtain ⟨D5, d5, rfl⟩ := Kd.R_slice hz5)
  have hb9 := below_alloc hb8 (.cells #[.int .i64 x1, .int .i64 x2, .int .i64 x3, .slice D3 xh.length d3, .slice D4 xm.length d4] 30 (0, 0))
  generalize w8.alloc (.cells #[.int .i64 x1, .int .i64 x2, .int .i64 x3, .slice D3 xh.length d3, .slice D4 xm.length d4] 30 (0, 0)) = w9 at *
  have bH := Aside0.mk TT.out.b
  replace TT := Aside0.mk (TT.out.below hb9)
  clear o0 o1 o2 nn1 hz3 hz4 hz5 hX8 hv8
  obtain ⟨o0, o1, o2⟩ := cells3 ⟨TT.out.o⟩
  go_upto_region 10 with (go_at_call 31; refine (hY9 _ hb9).mono ?_; rintro e wa ⟨z3, z4, z5, rfl, hz3, hz4, hz5, hba, hva⟩; obtain ⟨G3, g3, rfl⟩ := Kd.R_slice hz3; obtain ⟨G4, g4, rfl⟩ := Kd.R_slice hz4; obtain ⟨G5, g5, rfl⟩ := Kd.R_slice hz5)
  have hbb := below_alloc hba (.cells #[.int .i64 y1, .int .i64 y2, .int .i64 y3, .slice G3 yh.length g3, .slice G4 ym.length g4] 30 (0, 0))
  generalize wa.alloc (.cells #[.int .i64 y1, .int .i64 y2, .int .i64 y3, .slice G3 yh.length g3, .slice G4 ym.length g4] 30 (0, 0)) = wb at *
  clear o0 o1 o2 hz3 hz4 hz5 hY9 hva
  replace DD := Aside0.mk (DD.out.below hbb)
  replace EE := Aside0.mk (EE.out.below hbb)
  replace bH := Aside0.mk (below_step bH.out hbb)
  clear hb8 hb9 hba hbb TT
  obtain ⟨E3, e3, rfl⟩ := Kd.R_slice DD.out.r3
  obtain ⟨E4, e4, rfl⟩ := Kd.R_slice DD.out.r4
  obtain ⟨E5, e5, rfl⟩ := Kd.R_slice DD.out.r5
  obtain ⟨F3, f3, rfl⟩ := Kd.R_slice EE.out.r3
  obtain ⟨F4, f4, rfl⟩ := Kd.R_slice EE.out.r4
  obtain ⟨F5, f5, rfl⟩ := Kd.R_slice EE.out.r5
  have hc14 := hW wb HW.out
  have hc15 := fun V (hV : Below wb.heap.size wb V) => insolvencyref33_SameDocket.calls k p1 p2 p3 E3 e3 ph E4 e4 pm q1 q2 q3 F3 f3 qh F4 f4 qm true V (Kd.C_below (Kd.R_reads' DD.out.r3).2.2 hV) (Kd.R_reads' DD.out.r3).2.1 (Kd.C_below (Kd.R_reads' DD.out.r4).2.2 hV) (Kd.R_reads' DD.out.r4).2.1 (Kd.C_below (Kd.R_reads' EE.out.r3).2.2 hV) (Kd.R_reads' EE.out.r3).2.1 (Kd.C_below (Kd.R_reads' EE.out.r4).2.2 hV) (Kd.R_reads' EE.out.r4).2.1 HS3.out
  have hc16 := fun V (hV : Below wb.heap.size wb V) => insolvencyref33_SameRulings.calls k E5 e5 pr F5 f5 qr true V (Kd.C_below (Kd.R_reads' DD.out.r5).2.2 hV) (Kd.R_reads' DD.out.r5).2.1 (Kd.C_below (Kd.R_reads' EE.out.r5).2.2 hV) (Kd.R_reads' EE.out.r5).2.1 HS4.out
  clear hW
  go_wp2_with (first | (go_at_call 14; refine hc14.mono ?_; rintro e wc ⟨rfl, hbc⟩; obtain ⟨o0, o1, o2, o3, o4⟩ := cells5 ⟨(DD.out.below hbc).o⟩; obtain ⟨y0, y1, y2, y3, y4⟩ := cells5 ⟨(EE.out.below hbc).o⟩) | (go_at_call 15; refine (hc15 _ hbc).mono ?_; rintro e wd ⟨rfl, hbd⟩) | (go_at_call 16; refine (hc16 _ (below_step hbc hbd)).mono ?_; rintro e we ⟨rfl, hbe⟩))
  go_ret
  exact ⟨rfl, below_step (below_step (below_step bH.out hbc) hbd) hbe.below⟩
end Go.Proofs.Ytpfiecjacpbhkaa.D

-- The print's words, those alone that this claim's texts mention: struck by a program of this session's.
-- PRINTED WORDS (module Derived/Print/Sized.lean): go-gate-2's, for the rows of laws over slices: an AI agent of Go's test side, Tue Nov 17 2026; no person has read it. Lean checks it.
namespace Go.Proofs.YtpfiecjacpbhkaaW.PrintWords
open Go.ChangeShapes Go.WideShapes
end Go.Proofs.YtpfiecjacpbhkaaW.PrintWords

/- Arguments of the laws, opened: structs and small arrays of plain fields, slices of these and of integers: each told as_ a Lean list, with what the reader says of its numbers. -/
namespace Go.Proofs.Ytpfiecjacpbhkaa.Ho
open Go.RowKit Go.ChangeShapes Go.WideShapes Go.Deep Go.Proofs.YtpfiecjacpbhkaaW.PrintWords
open Go.Proofs.Ytpfiecjacpbhkaa.D

/-- Row by row, a list. -/
theorem rows_of {α : Type} {R : α → List Value → Prop} (ok : α → Prop) {size : Nat} {w : World} {A : Option Addr} {n : Nat} (hn : n ≤ maxLen)
    (h : 0 < n → ∃ ad, A = some ad ∧ ∀ i, i < n → ∃ x c, c.length = size ∧ R x c ∧ ok x ∧ ∀ j u, c[j]? = some u → w.cell? (ad.add (i * size + j)) = some u) :
    ∃ l : List α, n = l.length ∧ ReadsRow R size w A l.length l ∧ ∀ x ∈ l, ok x := by
  rcases Nat.eq_zero_or_pos n with h0 | hp
  · subst h0
    exact ⟨[], rfl, ⟨rfl, Nat.zero_le _, fun h => absurd h (Nat.lt_irrefl 0)⟩, fun x hx => by cases hx⟩
  · obtain ⟨ad, eA, hrow⟩ := h hp
    have key : ∀ m, m ≤ n → ∃ l : List α, l.length = m ∧ (∀ (j : Nat) (p : α), l[j]? = some p → ∃ c : List Value, c.length = size ∧ R p c ∧ ∀ i u, c[i]? = some u → w.cell? (ad.add (j * size + i)) = some u) ∧ ∀ x ∈ l, ok x := by
      intro m
      induction m with
      | zero => exact fun _ => ⟨[], rfl, fun j p hj => by simp at hj, fun x hx => by cases hx⟩
      | succ m ih =>
        intro hm
        obtain ⟨l, hl, hr, hok⟩ := ih (by omega)
        obtain ⟨x, c, hs, hR, hx, hcell⟩ := hrow m (by omega)
        refine ⟨l ++ [x], by simp [hl], ?_, ?_⟩
        · intro j p hj
          by_cases hlt : j < l.length
          · rw [List.getElem?_append_left hlt] at hj
            exact hr j p hj
          · have hle : l.length ≤ j := by omega
            rw [List.getElem?_append_right hle] at hj
            have e0 : j - l.length = 0 := by
              rcases Nat.eq_zero_or_pos (j - l.length) with e | e
              · exact e
              · rw [List.getElem?_eq_none (by simp; omega)] at hj
                cases hj
            rw [e0] at hj
            have ej : j = m := by omega
            subst ej
            have ex : x = p := by simpa using hj
            subst ex
            exact ⟨c, hs, hR, hcell⟩
        · intro y hy
          rcases List.mem_append.1 hy with h1 | h1
          · exact hok y h1
          · have : y = x := by simpa using h1
            subst this
            exact hx
    obtain ⟨l, hl, hr, hok⟩ := key n (Nat.le_refl _)
    refine ⟨l, hl.symm, ⟨rfl, ?_, fun _ => ⟨ad, eA, hr⟩⟩, hok⟩
    rw [hl]
    unfold maxLen at hn
    omega

section
variable {H : Type} {enc : TypeId × Value → H} {P : Program} {w : World} {base : Nat} {spare : Nat → Bool} {held : Bool}

/-- What the reader reads of type e, read as_ R, with 'ok'. -/
def Reads (enc : TypeId × Value → H) (P : Program) (w : World) (base : Nat) (spare : Nat → Bool) (held : Bool) {α : Type} (e : TypeId) (R : α → List Value → Prop) (ok : α → Prop) : Prop :=
  ∀ (n : Nat) (cs : List Value) (x : DataW H × List MemPlace), cs.length = P.cellsOf e → DataW.trod enc P w base spare held n e cs = some x → ∃ a : α, R a cs ∧ ok a

theorem reads_int {t : TypeId} {k : IntKind} (ht : P.underlying t = some (.int k)) : Reads enc P w base spare held t (fun (a : Int) cs => cs = [.int k a]) (fun a => (Lit.int k a).wf = true) := by
  intro n cs x _ h
  cases n with
  | zero => simp [DataW.trod] at h
  | succ n =>
    unfold DataW.trod at h
    rw [ht] at h
    split at h <;> simp_all

theorem reads_bool {t : TypeId} (ht : P.underlying t = some .bool) : Reads enc P w base spare held t (fun (a : Bool) cs => cs = [.bool a]) (fun _ => True) := by
  intro n cs x _ h
  cases n with
  | zero => simp [DataW.trod] at h
  | succ n =>
    unfold DataW.trod at h
    rw [ht] at h
    split at h <;> simp_all

/-- A slice's own length (in bytes, from the sizes), its cells row by row. -/
theorem open_rows {α : Type} {t e : TypeId} {R : α → List Value → Prop} {ok : α → Prop} {v : Value} {d : DataW H} {p : List MemPlace} {r : Reach} {b0 : Nat} (ht : P.underlying t = some (.slice e)) (hv : Value.okWide P w r b0 t v)
    (h : DataW.Trod enc P w base spare held t v d p) (hR : Reads enc P w base spare held e R ok) :
    ∃ (A : Option Addr) (l : List α) (cap : Nat), v = .slice A l.length cap ∧ l.length ≤ cap ∧ l.length ≤ maxLen ∧ ReadsRow R (P.cellsOf e) w A l.length l ∧ ∀ x ∈ l, ok x := by
  obtain ⟨A, len, cap, rfl⟩ := okWide_slice ht hv
  obtain ⟨fuel, hf⟩ := h
  rcases open_slice ht hf with ⟨hcs, _⟩ | ⟨a, len', cap', m, n, D, Pl, hcs, _, hl, hm, hmm, _, hi⟩
  · simp [Value.cells] at hcs
    obtain ⟨rfl, rfl, rfl⟩ := hcs
    exact ⟨none, [], 0, rfl, Nat.zero_le _, Nat.zero_le _, ⟨rfl, Nat.zero_le _, fun h => absurd h (Nat.lt_irrefl 0)⟩, fun x hx => by cases hx⟩
  · simp [Value.cells] at hcs
    obtain ⟨rfl, rfl, rfl⟩ := hcs
    have hlm : len ≤ m := by rw [hmm]; split <;> omega
    obtain ⟨l, rfl, hr, hok⟩ := rows_of (R := R) (w := w) (A := some a) (size := P.cellsOf e) ok (n := len) (by omega) (fun _ => ⟨a, rfl, fun i hi' => by
      obtain ⟨cs', hc, ht'⟩ := hi i (by omega)
      obtain ⟨_, hcl, hat⟩ := World.cells?_some hc
      obtain ⟨x, hx, hx'⟩ := hR n cs' _ hcl ht'
      refine ⟨x, cs', hcl, hx, hx', fun j u hu => ?_⟩
      have hj : j < cs'.length := (List.getElem?_eq_some_iff.1 hu).1
      rw [← Go.Deep.add_add, hat j (by omega), hu]⟩)
    exact ⟨some a, l, cap, rfl, hl, by omega, hr, hok⟩

/-- A struct by value. -/
theorem open_struct {α : Type} {t : TypeId} {fs : Array Field} {R : α → List Value → Prop} {ok : α → Prop} {v : Value} {d : DataW H} {p : List MemPlace} {r : Reach} {b0 : Nat} (ht : P.underlying t = some (.struct fs)) (hv : Value.okWide P w r b0 t v)
    (h : DataW.Trod enc P w base spare held t v d p) (hR : Reads enc P w base spare held t R ok) : ∃ (cs : List Value) (a : α), v = .agg cs.toArray ∧ R a cs ∧ ok a := by
  obtain ⟨cs, rfl, hsz⟩ := okWide_struct ht hv
  obtain ⟨fuel, hf⟩ := h
  obtain ⟨l⟩ := cs
  have e1 : (Value.agg ⟨l⟩).cells.toList = l := by simp [Value.cells]
  rw [e1] at hf
  obtain ⟨a, ha, ha'⟩ := hR fuel l _ (by simpa using hsz) hf
  exact ⟨l, a, rfl, ha, ha'⟩

/-- An array by value. -/
theorem open_array {α : Type} {t e : TypeId} {n : Nat} {R : α → List Value → Prop} {ok : α → Prop} {v : Value} {d : DataW H} {p : List MemPlace} {r : Reach} {b0 : Nat} (ht : P.underlying t = some (.array n e)) (hv : Value.okWide P w r b0 t v)
    (h : DataW.Trod enc P w base spare held t v d p) (hR : Reads enc P w base spare held t R ok) : ∃ (cs : List Value) (a : α), v = .agg cs.toArray ∧ R a cs ∧ ok a := by
  simp only [Value.okWide, ht] at hv
  obtain ⟨cs, rfl, hsz, _⟩ := hv
  obtain ⟨fuel, hf⟩ := h
  obtain ⟨l⟩ := cs
  have e1 : (Value.agg ⟨l⟩).cells.toList = l := by simp [Value.cells]
  rw [e1] at hf
  obtain ⟨a, ha, ha'⟩ := hR fuel l _ (by simpa using hsz) hf
  exact ⟨l, a, rfl, ha, ha'⟩

/-- One field of a struct (or one element of an array) of one cell. -/
theorem field_at {e : TypeId} {fs : Array Field} {n : Nat} {cs : List Value} {x : DataW H × List MemPlace} (he : P.underlying e = some (.struct fs)) (hone : oneCellFields P fs = true) (h : DataW.trod enc P w base spare held n e cs = some x) :
    ∃ m, ∀ (j : Nat) (f : Field) (v : Value), fs[j]? = some f → cs[j]? = some v → P.cellsOf f.type = 1 ∧ ∃ y, DataW.trod enc P w base spare held m f.type [v] = some y := by
  obtain ⟨ys, m, _, _, hlen, hyl, hf⟩ := DataW.trod_struct he h
  refine ⟨m, fun j f v hj hv => ?_⟩
  obtain ⟨ho, hk⟩ := hone_of hone j f hj
  have h1 := hf j f hj
  rw [ho, hk] at h1
  obtain ⟨hjc, hvj⟩ := List.getElem?_eq_some_iff.1 hv
  have hone' : (cs.drop j).take 1 = [v] := by
    rw [List.drop_eq_getElem_cons hjc, hvj]
    rfl
  rw [hone'] at h1
  have hjl : j < ys.length := by have := (Array.getElem?_eq_some_iff.1 hj).1; omega
  exact ⟨hk, ys[j], h1.trans (List.getElem?_eq_getElem hjl)⟩

theorem elem_at {e e' : TypeId} {k n : Nat} {cs : List Value} {x : DataW H × List MemPlace} (he : P.underlying e = some (.array k e')) (hone : P.cellsOf e' = 1) (h : DataW.trod enc P w base spare held n e cs = some x) :
    ∃ m, ∀ (j : Nat) (v : Value), j < k → cs[j]? = some v → ∃ y, DataW.trod enc P w base spare held m e' [v] = some y := by
  obtain ⟨ys, m, _, _, hlen, hyl, hf⟩ := DataW.trod_array he h
  refine ⟨m, fun j v hj hv => ?_⟩
  have h1 := hf j hj
  rw [hone, Nat.mul_one] at h1
  obtain ⟨hjc, hvj⟩ := List.getElem?_eq_some_iff.1 hv
  have hone' : (cs.drop j).take 1 = [v] := by
    rw [List.drop_eq_getElem_cons hjc, hvj]
    rfl
  rw [hone'] at h1
  exact ⟨ys[j]'(by omega), h1.trans (List.getElem?_eq_getElem (by omega))⟩
end
end Go.Proofs.Ytpfiecjacpbhkaa.Ho

/- What the reader reads of the structs and arrays among the laws' arguments, told in Lean. Written by a program of this session's. -/
namespace Go.Proofs.Ytpfiecjacpbhkaa.D
structure S22 where
  f0 : Int
  f1 : Int
def k22.K (_ : World) (x : S22) (cs : List Value) : Prop := cs = [.int .u8 x.f0, .int .u8 x.f1]
theorem k22_mk (w : World) (x : S22) : k22.K w x [.int .u8 x.f0, .int .u8 x.f1] := rfl
theorem k22_open {w : World} {x : S22} {cs : List Value} (h : k22.K w x cs) : cs = [.int .u8 x.f0, .int .u8 x.f1] := h
end Go.Proofs.Ytpfiecjacpbhkaa.D
namespace Go.Proofs.Ytpfiecjacpbhkaa.Ho
open Go.RowKit Go.ChangeShapes Go.WideShapes Go.Deep Go.Proofs.YtpfiecjacpbhkaaW.PrintWords
open Go.Proofs.Ytpfiecjacpbhkaa.D
set_option linter.unusedVariables false
set_option linter.unusedSimpArgs false
section
variable {H : Type} {enc : TypeId × Value → H} {w : World} {base : Nat} {spare : Nat → Bool} {held : Bool}
theorem cellsI_i64 : Try.prog.cellsOf 3 = 1 := by kernel_rfl
theorem cellsI_u16 : Try.prog.cellsOf 54 = 1 := by kernel_rfl
theorem cellsI_u8 : Try.prog.cellsOf 5 = 1 := by kernel_rfl
theorem cellsB : Try.prog.cellsOf 4 = 1 := by kernel_rfl
theorem readsI_i64 : Reads enc Try.prog w base spare held 3 (fun (a : Int) cs => (Kd.int .i64).K w a cs) (fun a => (Lit.int .i64 a).wf = true) := reads_int Try.underlying3
theorem readsI_u16 : Reads enc Try.prog w base spare held 54 (fun (a : Int) cs => (Kd.int .u16).K w a cs) (fun a => (Lit.int .u16 a).wf = true) := reads_int Try.underlying54
theorem readsI_u8 : Reads enc Try.prog w base spare held 5 (fun (a : Int) cs => (Kd.int .u8).K w a cs) (fun a => (Lit.int .u8 a).wf = true) := reads_int Try.underlying5
def ok22 (a : S22) : Prop := (Lit.int .u8 a.f0).wf = true ∧ (Lit.int .u8 a.f1).wf = true
theorem cells22 : Try.prog.cellsOf 22 = 2 := by kernel_rfl
theorem reads22 : Reads enc Try.prog w base spare held 22 (fun (a : S22) cs => k22.K w a cs) ok22 := by
  intro n cs x hl h
  rw [cells22] at hl
  obtain ⟨m, hm⟩ := elem_at Try.underlying22 (by kernel_rfl) h
  match cs, hl with
  | [v0, v1], _ =>
    obtain ⟨y0, h0⟩ := hm 0 v0 (by omega) rfl
    obtain ⟨b0, e0, w0⟩ := reads_int Try.underlying5 m [v0] y0 cellsI_u8.symm h0
    cases e0
    obtain ⟨y1, h1⟩ := hm 1 v1 (by omega) rfl
    obtain ⟨b1, e1, w1⟩ := reads_int Try.underlying5 m [v1] y1 cellsI_u8.symm h1
    cases e1
    exact ⟨⟨b0, b1⟩, k22_mk w _, w0, w1⟩
def ok47 (a : S47) : Prop := (Lit.int .i64 a.f0).wf = true ∧ (Lit.int .i64 a.f1).wf = true ∧ (Lit.int .i64 a.f2).wf = true ∧ (Lit.int .i64 a.f3).wf = true
theorem cells47 : Try.prog.cellsOf 47 = 4 := by kernel_rfl
theorem reads47 : Reads enc Try.prog w base spare held 47 (fun (a : S47) cs => k47.K w a cs) ok47 := by
  intro n cs x hl h
  rw [cells47] at hl
  obtain ⟨m, hm⟩ := field_at Try.underlying47 (by kernel_rfl) h
  match cs, hl with
  | [v0, v1, v2, v3], _ =>
    obtain ⟨_, y0, h0⟩ := hm 0 _ v0 rfl rfl
    obtain ⟨b0, e0, w0⟩ := reads_int Try.underlying3 m [v0] y0 cellsI_i64.symm h0
    cases e0
    obtain ⟨_, y1, h1⟩ := hm 1 _ v1 rfl rfl
    obtain ⟨b1, e1, w1⟩ := reads_int Try.underlying3 m [v1] y1 cellsI_i64.symm h1
    cases e1
    obtain ⟨_, y2, h2⟩ := hm 2 _ v2 rfl rfl
    obtain ⟨b2, e2, w2⟩ := reads_int Try.underlying3 m [v2] y2 cellsI_i64.symm h2
    cases e2
    obtain ⟨_, y3, h3⟩ := hm 3 _ v3 rfl rfl
    obtain ⟨b3, e3, w3⟩ := reads_int Try.underlying3 m [v3] y3 cellsI_i64.symm h3
    cases e3
    exact ⟨⟨b0, b1, b2, b3⟩, k47_mk w _, w0, w1, w2, w3⟩
def ok50 (a : S50) : Prop := (Lit.int .i64 a.f0).wf = true ∧ (Lit.int .i64 a.f1).wf = true ∧ (Lit.int .i64 a.f2).wf = true ∧ (Lit.int .i64 a.f3).wf = true
theorem cells50 : Try.prog.cellsOf 50 = 5 := by kernel_rfl
theorem reads50 : Reads enc Try.prog w base spare held 50 (fun (a : S50) cs => k50.K w a cs) ok50 := by
  intro n cs x hl h
  rw [cells50] at hl
  obtain ⟨m, hm⟩ := field_at Try.underlying50 (by kernel_rfl) h
  match cs, hl with
  | [v0, v1, v2, v3, v4], _ =>
    obtain ⟨_, y0, h0⟩ := hm 0 _ v0 rfl rfl
    obtain ⟨b0, e0, w0⟩ := reads_int Try.underlying3 m [v0] y0 cellsI_i64.symm h0
    cases e0
    obtain ⟨_, y1, h1⟩ := hm 1 _ v1 rfl rfl
    obtain ⟨b1, e1, w1⟩ := reads_int Try.underlying3 m [v1] y1 cellsI_i64.symm h1
    cases e1
    obtain ⟨_, y2, h2⟩ := hm 2 _ v2 rfl rfl
    obtain ⟨b2, e2, w2⟩ := reads_int Try.underlying3 m [v2] y2 cellsI_i64.symm h2
    cases e2
    obtain ⟨_, y3, h3⟩ := hm 3 _ v3 rfl rfl
    obtain ⟨b3, e3, w3⟩ := reads_int Try.underlying3 m [v3] y3 cellsI_i64.symm h3
    cases e3
    obtain ⟨_, y4, h4⟩ := hm 4 _ v4 rfl rfl
    obtain ⟨b4, e4, w4⟩ := reads_bool Try.underlying4 m [v4] y4 cellsB.symm h4
    cases e4
    exact ⟨⟨b0, b1, b2, b3, b4⟩, k50_mk w _, w0, w1, w2, w3⟩
def ok83 (a : S83) : Prop := (Lit.int .u8 a.f0).wf = true ∧ (Lit.int .u8 a.f1).wf = true ∧ (Lit.int .u8 a.f2).wf = true ∧ (Lit.int .u8 a.f3).wf = true
theorem cells83 : Try.prog.cellsOf 83 = 4 := by kernel_rfl
theorem reads83 : Reads enc Try.prog w base spare held 83 (fun (a : S83) cs => k83.K w a cs) ok83 := by
  intro n cs x hl h
  rw [cells83] at hl
  obtain ⟨m, hm⟩ := elem_at Try.underlying83 (by kernel_rfl) h
  match cs, hl with
  | [v0, v1, v2, v3], _ =>
    obtain ⟨y0, h0⟩ := hm 0 v0 (by omega) rfl
    obtain ⟨b0, e0, w0⟩ := reads_int Try.underlying5 m [v0] y0 cellsI_u8.symm h0
    cases e0
    obtain ⟨y1, h1⟩ := hm 1 v1 (by omega) rfl
    obtain ⟨b1, e1, w1⟩ := reads_int Try.underlying5 m [v1] y1 cellsI_u8.symm h1
    cases e1
    obtain ⟨y2, h2⟩ := hm 2 v2 (by omega) rfl
    obtain ⟨b2, e2, w2⟩ := reads_int Try.underlying5 m [v2] y2 cellsI_u8.symm h2
    cases e2
    obtain ⟨y3, h3⟩ := hm 3 v3 (by omega) rfl
    obtain ⟨b3, e3, w3⟩ := reads_int Try.underlying5 m [v3] y3 cellsI_u8.symm h3
    cases e3
    exact ⟨⟨b0, b1, b2, b3⟩, k83_mk w _, w0, w1, w2, w3⟩
end
end Go.Proofs.Ytpfiecjacpbhkaa.Ho

/- The pure statement of DocketPlay. Written by a program of this session's. -/
namespace Go.Proofs.Ytpfiecjacpbhkaa.D
open Go.RowKit
def insolvencylaw33_DocketPlay.Pure : Prop := ∀ (a0 : Int) (a1 : S22) (l2 : List Int) (l3 : List S83) (l4 : List S83) (a5 : Int), (Lit.int .u8 a0).wf = true → Ho.ok22 a1 → l2.length ≤ maxLen → (∀ x ∈ l2, (Lit.int .u16 x).wf = true) → l3.length ≤ maxLen → (∀ x ∈ l3, Ho.ok83 x) → l4.length ≤ maxLen → (∀ x ∈ l4, Ho.ok83 x) → (Lit.int .i64 a5).wf = true → ∃ k, insolvencylaw33_DocketPlay.f k a0 a1.f0 a1.f1 l2 l3 l4 a5 = some true
end Go.Proofs.Ytpfiecjacpbhkaa.D

/- What the calendar's functions and the references come to, in the words of the plain law: no condition but list lengths of at most 1000 where stated. -/
namespace Go.Proofs.Ytpfiecjacpbhkaa.Hx
open Go.RowKit Go.Proofs.YtpfiecjacpbhkaaW.PrintWords Go.Proofs.YtpfiecjacpbhkaaW.PrintLast Go.Proofs.YtpfiecjacpbhkaaW.PrintMore F Hm
set_option linter.unusedVariables false

theorem ev_const {α : Type} {o : Option α} {r : α} (h : o = some r) : Ev (fun _ => o) r := ⟨0, fun _ _ => h⟩
theorem ev_if {α : Type} {c : Prop} [Decidable c] {g f : Nat → Option α} {r : α} (h : c) (k : Ev g r) : Ev (fun n => if c then g n else f n) r := by
  obtain ⟨K, k⟩ := k
  exact ⟨K, fun n hn => by show (if c then g n else f n) = _; rw [if_pos h]; exact k n hn⟩
theorem ev_else {α : Type} {c : Prop} [Decidable c] {g f : Nat → Option α} {r : α} (h : ¬ c) (k : Ev f r) : Ev (fun n => if c then g n else f n) r := by
  obtain ⟨K, k⟩ := k
  exact ⟨K, fun n hn => by show (if c then g n else f n) = _; rw [if_neg h]; exact k n hn⟩
theorem ev_then {α β : Type} {o : Option α} {f : Nat → α → Option β} {a : α} {r : β} (h : o = some a) (k : Ev (fun n => f n a) r) : Ev (fun n => o.bind (f n)) r := by
  obtain ⟨K, k⟩ := k
  exact ⟨K, fun n hn => by show o.bind (f n) = _; rw [h]; exact k n hn⟩
theorem w64 (x : Int) (h0 : -9223372036854775808 ≤ x) (h1 : x ≤ 9223372036854775807) : wrap64 x = x := by
  unfold wrap64
  omega

/-! ### days -/
def isD (d : Int) : Bool := decide (0 ≤ d) && decide (d ≤ 1048576)
theorem isDay_some (d : Int) : calendar_isDay.f d = some (isD d) := by
  unfold calendar_isDay.f isD
  by_cases h : d ≥ 0
  · rw [if_pos h, decide_eq_true (show 0 ≤ d from h), Bool.true_and]
  · rw [if_neg h, decide_eq_false (show ¬ 0 ≤ d from h), Bool.false_and]
theorem refDay_some (d : Int) : insolvencyref1_IsDay.f d = some (isD d) := isDay_some d
theorem tmod_pos (d m : Int) (h : 0 ≤ d) : Int.tmod d m = d % m := Int.tmod_eq_emod_of_nonneg h
theorem tmod_neg (d m : Int) (h : d < 0) : Int.tmod d m = -((-d) % m) := by
  have e : Int.tmod d m = -(Int.tmod (-d) m) := by rw [Int.neg_tmod, Int.neg_neg]
  rw [e, tmod_pos (-d) m (by omega)]
theorem tmod7 (d : Int) : Int.tmod (wrap64 (Int.tmod d 7 + 7)) 7 = d % 7 := by
  by_cases h : 0 ≤ d
  · rw [tmod_pos d 7 h, w64 _ (by omega) (by omega), tmod_pos _ 7 (by omega)]
    omega
  · rw [tmod_neg d 7 (by omega), w64 _ (by omega) (by omega), tmod_pos _ 7 (by omega)]
    omega
theorem weekday_some (d : Int) : calendar_Weekday.f d = some (d % 7) := by
  unfold calendar_Weekday.f
  rw [tmod7]
theorem refWeekday_some (d : Int) : insolvencyref1_Weekday.f d = some (d % 7) := by
  unfold insolvencyref1_Weekday.f
  by_cases h0 : 0 ≤ d
  · rw [tmod_pos d 7 h0, if_neg (by omega)]
  · rw [tmod_neg d 7 (by omega)]
    by_cases h : -((-d) % 7) < 0
    · rw [if_pos h, w64 _ (by omega) (by omega)]
      congr 1
      omega
    · rw [if_neg h]
      congr 1
      omega

/-! ### the reference's IsBusiness -/
theorem has_ev (l : List Int) (d : Int) : ∀ (n i : Nat), i ≤ l.length → l.length - i = n → l.length ≤ 9223372036854775806 →
    Ev (fun k => insolvencyref1_has.l0 k l d (i : Int)) ((l.drop i).contains d) := by
  intro n
  induction n with
  | zero =>
    intro i hi hn hl
    refine Ev.step (f := fun _ => some false) (fun k => ?_) (by rw [List.drop_eq_nil_of_le (by omega)]; exact Ev.now false)
    rw [insolvencyref1_has.l0, if_neg (by omega)]
  | succ n ih =>
    intro i hi hn hl
    have hlt : i < l.length := by omega
    have e : l.drop i = l[i] :: l.drop (i + 1) := List.drop_eq_getElem_cons hlt
    rw [e, List.contains_cons]
    by_cases hd : rd l (i : Int) = d
    · refine Ev.step (f := fun _ => some true) (fun k => ?_) ?_
      · rw [insolvencyref1_has.l0, if_pos (by omega), if_pos (by omega), if_pos hd]
      · rw [rd_nat l i hlt] at hd
        rw [hd]
        simpa using Ev.now true
    · refine Ev.step (f := fun k => insolvencyref1_has.l0 k l d ((i + 1 : Nat) : Int)) (fun k => ?_) ?_
      · rw [insolvencyref1_has.l0, if_pos (by omega), if_pos (by omega), if_neg hd, w64 _ (by omega) (by omega)]
        rfl
      · rw [rd_nat l i hlt] at hd
        rw [show (d == l[i]) = false from by simpa using fun z => hd z.symm, Bool.false_or]
        exact ih (i + 1) (by omega) (by omega) hl
theorem refBus_ev (hs : List Int) (d : Int) (hl : hs.length ≤ 9223372036854775806) : Ev (fun k => insolvencyref1_IsBusiness.f k d hs) (bus hs d) := by
  unfold insolvencyref1_IsBusiness.f
  refine ev_then (refDay_some d) ?_
  have hb : bus hs d = (isD d && (decide (d % 7 < 5) && !hs.contains d)) := by unfold bus isD; rw [Bool.and_assoc]
  rw [hb]
  cases isD d with
  | false => exact ev_else (by simp) (Ev.now false)
  | true =>
    refine ev_if rfl (ev_then (refWeekday_some d) ?_)
    by_cases h5 : d % 7 < 5
    · rw [decide_eq_true h5]
      refine ev_if h5 ?_
      have := has_ev hs d hs.length 0 (by omega) (by omega) hl
      rw [List.drop_zero] at this
      simp only [Bool.true_and]
      exact Ev.bind (f := fun _ t => some (!t)) this (Ev.now _)
    · rw [decide_eq_false h5]
      exact ev_else h5 (Ev.now false)

/-! ### the list of closed days -/
theorem sorted_loop (hs : List Int) (hl : hs.length ≤ 1000) : ∀ (n i : Nat) (acc : List Int), i ≤ hs.length → hs.length - i = n → acc.length ≤ i →
    Ev (fun k => calendar_sorted.l0 k acc hs (hs.length : Int) (i : Int)) (Lib.compact ((acc ++ (hs.drop i).filter fun h => decide (0 ≤ h) && (decide (h ≤ 1048576) && decide (h % 7 < 5))).mergeSort fun x y => decide (x ≤ y))) := by
  intro n
  induction n with
  | zero =>
    intro i acc hi hn ha
    refine Ev.step (f := fun _ => some (Lib.compact (acc.mergeSort fun x y => decide (x ≤ y)))) (fun k => ?_) ?_
    · rw [calendar_sorted.l0, if_neg (by omega)]
      simp [Hw.slices_Sort_closed.f, Hw.slices_Compact_closed.f, show acc.length < 4611686018427387904 by omega]
    · rw [List.drop_eq_nil_of_le (by omega), List.filter_nil, List.append_nil]
      exact Ev.now _
  | succ n ih =>
    intro i acc hi hn ha
    have hlt : i < hs.length := by omega
    have e : hs.drop i = hs[i] :: hs.drop (i + 1) := List.drop_eq_getElem_cons hlt
    have er : rd hs (i : Int) = hs[i] := rd_nat hs i hlt
    rw [e, List.filter_cons]
    have go : ∀ acc' : List Int, acc'.length ≤ i + 1 → Ev (fun k => calendar_sorted.l0 k acc' hs (hs.length : Int) (wrap64 ((i : Int) + 1))) (Lib.compact ((acc' ++ (hs.drop (i + 1)).filter fun h => decide (0 ≤ h) && (decide (h ≤ 1048576) && decide (h % 7 < 5))).mergeSort fun x y => decide (x ≤ y))) := by
      intro acc' ha'
      rw [w64 _ (by omega) (by omega)]
      exact ih (i + 1) acc' (by omega) (by omega) ha'
    by_cases hd : isD hs[i] = true
    · by_cases h5 : hs[i] % 7 < 5
      · rw [if_pos (by simp only [isD, Bool.and_eq_true, decide_eq_true_eq] at hd ⊢; exact ⟨hd.1, hd.2, h5⟩)]
        refine Ev.step (f := fun k => calendar_sorted.l0 k (acc ++ [hs[i]]) hs (hs.length : Int) (wrap64 ((i : Int) + 1))) (fun k => ?_) ?_
        · rw [calendar_sorted.l0, if_pos (by omega), if_pos (by omega), if_pos (by omega), er, isDay_some, Option.bind_some, if_pos hd, weekday_some, Option.bind_some, if_pos h5, if_pos (by omega)]
        · have := go (acc ++ [hs[i]]) (by simp; omega)
          rw [List.append_assoc] at this
          exact this
      · rw [if_neg (by simp only [Bool.and_eq_true, decide_eq_true_eq]; intro z; exact h5 z.2.2)]
        refine Ev.step (f := fun k => calendar_sorted.l0 k acc hs (hs.length : Int) (wrap64 ((i : Int) + 1))) (fun k => ?_) (go acc (by omega))
        rw [calendar_sorted.l0, if_pos (by omega), if_pos (by omega), if_pos (by omega), er, isDay_some, Option.bind_some, if_pos hd, weekday_some, Option.bind_some, if_neg h5]
    · rw [if_neg (by simp only [isD, Bool.and_eq_true, decide_eq_true_eq] at hd ⊢; intro z; exact hd ⟨z.1, z.2.1⟩)]
      refine Ev.step (f := fun k => calendar_sorted.l0 k acc hs (hs.length : Int) (wrap64 ((i : Int) + 1))) (fun k => ?_) (go acc (by omega))
      rw [calendar_sorted.l0, if_pos (by omega), if_pos (by omega), if_pos (by omega), er, isDay_some, Option.bind_some, if_neg hd]
theorem sorted_ev (hs : List Int) (hl : hs.length ≤ 1000) : Ev (fun k => calendar_sorted.f k hs) (closedOf hs) := by
  have := sorted_loop hs hl hs.length 0 [] (by omega) (by omega) (by simp)
  rw [List.drop_zero, List.nil_append] at this
  exact this

/-! ### before, nth -/
theorem before_some (hs c : List Int) (hc : IsClosed hs c) (hl : c.length ≤ 1000) (d : Nat) (hd : d ≤ 1048577) : E.calendar_closed_before.f c (d : Int) = some (cnt hs d : Int) := by
  have h1 := cnt_closed hc d hd
  have h2 := bs_nb c (d : Int) hc.1
  have h3 := nb_le c (d : Int)
  have h4 := cnt_le hs d
  unfold E.calendar_closed_before.f Hw.sort_SearchInts.f
  rw [if_pos (by omega), Option.bind_some, h2]
  have e : mn (Int.tmod (d : Int) 7) 5 = ((min (d % 7) 5 : Nat) : Int) := by
    rw [tmod_pos _ 7 (by omega)]
    unfold mn
    split <;> omega
  have e2 : Int.tdiv (d : Int) 7 = (d : Int) / 7 := Int.tdiv_eq_ediv_of_nonneg (by omega)
  rw [e, e2, w64 ((d : Int) / 7) (by omega) (by omega)]
  unfold wk at h1
  rw [w64 ((d : Int) / 7 * 5) (by omega) (by omega), w64 (_ + _) (by omega) (by omega), w64 _ (by omega) (by omega)]
  congr 1
  omega
theorem nth_some (hs c : List Int) (hc : IsClosed hs c) (hl : c.length ≤ 1000) (m : Int) (hm : 0 ≤ m) : ∃ r, Hw.calendar_closed_nth.f c m = some r ∧ IsRes hs m r := by
  unfold Hw.calendar_closed_nth.f
  rw [if_pos (by omega)]
  refine ⟨_, ?_, res_of_bs hm (p := Hw.nthP c m) (fun d hd => ?_)⟩
  · split <;> rfl
  · unfold Hw.nthP
    have := before_some hs c hc hl (d + 1) (by omega)
    rw [show ((d + 1 : Nat) : Int) = (d : Int) + 1 by omega] at this
    rw [this]
    rfl

/-! ### Add -/
/-- How many business days may lie up to the answer, less one. -/
def mOf (hs : List Int) (day n : Int) : Int := if n = 0 then (cnt hs day.toNat : Int) else (cnt hs (day.toNat + 1) : Int) + n - 1
/-- What Add answers. -/
def IsAdd (hs : List Int) (day n : Int) (r : Int × Int) : Prop :=
  if (hs.length : Int) > 1000 then r = (0, 2) else if isD day = true ∧ 0 ≤ n ∧ n ≤ 1048576 then IsRes hs (mOf hs day n) r else r = (0, 1)
theorem IsAdd.unique {hs : List Int} {day n : Int} {x y : Int × Int} (h : IsAdd hs day n x) (k : IsAdd hs day n y) : x = y := by
  unfold IsAdd at h k
  by_cases h1 : (hs.length : Int) > 1000
  · rw [if_pos h1] at h k; rw [h, k]
  · rw [if_neg h1] at h k
    by_cases h2 : isD day = true ∧ 0 ≤ n ∧ n ≤ 1048576
    · rw [if_pos h2] at h k; exact h.unique k
    · rw [if_neg h2] at h k; rw [h, k]
theorem IsAdd.long {hs : List Int} {day n : Int} (h : (hs.length : Int) > 1000) : IsAdd hs day n (0, 2) := by unfold IsAdd; rw [if_pos h]
theorem IsAdd.ok {hs : List Int} {day n : Int} {r : Int × Int} (h : ¬ (hs.length : Int) > 1000) (h2 : isD day = true ∧ 0 ≤ n ∧ n ≤ 1048576) (hr : IsRes hs (mOf hs day n) r) : IsAdd hs day n r := by unfold IsAdd; rw [if_neg h, if_pos h2]; exact hr
theorem IsAdd.bad {hs : List Int} {day n : Int} (h : ¬ (hs.length : Int) > 1000) (h2 : ¬ (isD day = true ∧ 0 ≤ n ∧ n ≤ 1048576)) : IsAdd hs day n (0, 1) := by unfold IsAdd; rw [if_neg h, if_neg h2]
theorem mOf_nonneg (hs : List Int) (day n : Int) (hn : 0 ≤ n) : 0 ≤ mOf hs day n := by
  unfold mOf
  split <;> omega
theorem add_ev (hs : List Int) (day n : Int) : ∃ r, Ev (fun k => calendar_Add.f k day n hs) r ∧ IsAdd hs day n r := by
  unfold calendar_Add.f
  by_cases h1 : (hs.length : Int) > 1000
  · exact ⟨(0, 2), ev_if h1 (Ev.now _), IsAdd.long h1⟩
  have bad : ∀ b : Bool, b = true → Ev (fun k => calendar_Add.j0 k day n hs b) ((0, 1) : Int × Int) := by
    rintro b rfl
    refine Ev.step (f := fun _ => some (0, 1)) (fun k => ?_) (Ev.now _)
    rw [calendar_Add.j0, if_pos rfl]
  by_cases h2 : isD day = true ∧ 0 ≤ n ∧ n ≤ 1048576
  · have h2' := h2
    obtain ⟨hd, hn0, hn1⟩ := h2
    have hd' := hd
    simp only [isD, Bool.and_eq_true, decide_eq_true_eq] at hd'
    obtain ⟨d, rfl⟩ := Int.eq_ofNat_of_zero_le hd'.1
    have hcl := closedOf_closed hs
    have hln : (closedOf hs).length ≤ 1000 := by have := closedOf_length hs; omega
    obtain ⟨r, hr, hres⟩ := nth_some hs (closedOf hs) hcl hln (mOf hs (d : Int) n) (mOf_nonneg _ _ _ hn0)
    refine ⟨r, ?_, IsAdd.ok h1 h2' hres⟩
    refine ev_else h1 (ev_then (isDay_some _) (ev_if hd (ev_else (show ¬ n < 0 by omega) ?_)))
    rw [decide_eq_false (show ¬ n > 1048576 by omega)]
    refine Ev.step (f := fun k => (calendar_sorted.f k hs).bind fun t => _) (fun k => ?_) (Ev.bind (f := fun _ t => if n = 0 then ((E.calendar_closed_before.f t (d : Int)).bind fun t115 => ((Hw.calendar_closed_nth.f t t115).bind fun bt116 => (some (bt116.1, bt116.2)))) else ((E.calendar_closed_before.f t (wrap64 ((d : Int) + 1))).bind fun t118 => ((Hw.calendar_closed_nth.f t (wrap64 ((wrap64 (t118 + n)) - 1))).bind fun bt119 => (some (bt119.1, bt119.2))))) (sorted_ev hs (by omega)) ?_)
    · rw [calendar_Add.j0, if_neg (by simp)]
    · have hdn : d ≤ 1048576 := by omega
      have c1 := cnt_le hs (d + 1)
      unfold mOf at hr
      rw [Int.toNat_natCast] at hr
      by_cases h0 : n = 0
      · rw [if_pos h0] at hr ⊢
        rw [before_some hs _ hcl hln d (by omega), Option.bind_some, hr]
        exact Ev.now _
      · rw [if_neg h0] at hr ⊢
        rw [w64 ((d : Int) + 1) (by omega) (by omega), show ((d : Int) + 1) = ((d + 1 : Nat) : Int) by omega, before_some hs _ hcl hln (d + 1) (by omega), Option.bind_some, w64 (_ + n) (by omega) (by omega), w64 _ (by omega) (by omega), hr]
        exact Ev.now _
  · refine ⟨(0, 1), ?_, IsAdd.bad h1 h2⟩
    refine ev_else h1 (ev_then (isDay_some _) ?_)
    by_cases hd : isD day = true
    · refine ev_if hd ?_
      by_cases hn : n < 0
      · exact ev_if hn (bad _ rfl)
      · exact ev_else hn (bad _ (decide_eq_true (show n > 1048576 from by
          have h3 : ¬ (0 ≤ n ∧ n ≤ 1048576) := fun z => h2 ⟨hd, z⟩
          omega)))
    · exact ev_else hd (bad _ rfl)

/-! ### the reference's AddDays -/
theorem refLoop (hs : List Int) (hl : hs.length ≤ 1000) : ∀ (j d : Nat) (n : Int), d ≤ 1048577 → 1048577 - d = j → 0 ≤ n → n ≤ 1048576 →
    ∃ r, Ev (fun k => insolvencyref1_AddDays.l0 k n hs (d : Int)) r ∧ IsRes hs ((cnt hs d : Int) + (if n ≤ 1 then 1 else n) - 1) r := by
  intro j
  induction j with
  | zero =>
    intro d n hd hj h0 h1
    obtain rfl : d = 1048577 := by omega
    refine ⟨(0, 1), Ev.step (f := fun _ => some (0, 1)) (fun k => ?_) (Ev.now _), .inr ⟨rfl, by split <;> omega⟩⟩
    rw [insolvencyref1_AddDays.l0, if_neg (by omega)]
  | succ j ih =>
    intro d n hd hj h0 h1
    have hb := refBus_ev hs (d : Int) (by omega)
    have hc : cnt hs (d + 1) = cnt hs d + if bus hs (d : Int) = true then 1 else 0 := rfl
    have unf : ∀ k, insolvencyref1_AddDays.l0 (k + 1) n hs (d : Int) = (insolvencyref1_IsBusiness.f k (d : Int) hs).bind fun t => if t = true then (if n ≤ 1 then some ((d : Int), 0) else insolvencyref1_AddDays.l0 k (wrap64 (n - 1)) hs (wrap64 ((d : Int) + 1))) else insolvencyref1_AddDays.l0 k n hs (wrap64 ((d : Int) + 1)) := fun k => by
      rw [insolvencyref1_AddDays.l0, if_pos (by omega)]
    have e1 : wrap64 ((d : Int) + 1) = ((d + 1 : Nat) : Int) := by rw [w64 _ (by omega) (by omega)]; omega
    by_cases hbus : bus hs (d : Int) = true
    · rw [if_pos hbus] at hc
      by_cases hn : n ≤ 1
      · refine ⟨((d : Int), 0), Ev.step unf (Ev.bind hb ?_), .inl ⟨d, by omega, rfl, by rw [if_pos hn]; omega, by rw [if_pos hn]; omega⟩⟩
        exact ev_if hbus (ev_if hn (Ev.now _))
      · obtain ⟨r, hr, hres⟩ := ih (d + 1) (n - 1) (by omega) (by omega) (by omega) (by omega)
        refine ⟨r, Ev.step unf (Ev.bind hb ?_), ?_⟩
        · refine ev_if hbus (ev_else hn ?_)
          rw [e1, w64 (n - 1) (by omega) (by omega)]
          exact hr
        · rw [if_neg hn]
          rw [hc] at hres
          by_cases h2 : n - 1 ≤ 1
          · rw [if_pos h2] at hres
            rw [show (cnt hs d : Int) + n - 1 = ((cnt hs d + 1 : Nat) : Int) + 1 - 1 by omega]
            exact hres
          · rw [if_neg h2] at hres
            rw [show (cnt hs d : Int) + n - 1 = ((cnt hs d + 1 : Nat) : Int) + (n - 1) - 1 by omega]
            exact hres
    · obtain ⟨r, hr, hres⟩ := ih (d + 1) n (by omega) (by omega) h0 h1
      refine ⟨r, Ev.step unf (Ev.bind hb ?_), ?_⟩
      · refine ev_else hbus ?_
        rw [e1]
        exact hr
      · rw [if_neg hbus] at hc
        rw [hc] at hres
        exact hres
theorem refAdd_ev (hs : List Int) (day n : Int) : ∃ r, Ev (fun k => insolvencyref1_AddDays.f k day n hs) r ∧ IsAdd hs day n r := by
  unfold insolvencyref1_AddDays.f
  by_cases h1 : (hs.length : Int) > 1000
  · exact ⟨(0, 2), ev_if h1 (Ev.now _), IsAdd.long h1⟩
  have bad : ∀ b : Bool, b = true → Ev (fun k => insolvencyref1_AddDays.j0 k day n hs b) ((0, 1) : Int × Int) := by
    rintro b rfl
    refine Ev.step (f := fun _ => some (0, 1)) (fun k => ?_) (Ev.now _)
    rw [insolvencyref1_AddDays.j0, if_pos rfl]
  by_cases h2 : isD day = true ∧ 0 ≤ n ∧ n ≤ 1048576
  · have h2' := h2
    obtain ⟨hd, hn0, hn1⟩ := h2
    have hd' := hd
    simp only [isD, Bool.and_eq_true, decide_eq_true_eq] at hd'
    obtain ⟨d, rfl⟩ := Int.eq_ofNat_of_zero_le hd'.1
    have start : ∃ r, Ev (fun k => insolvencyref1_AddDays.j0 k (d : Int) n hs false) r ∧ IsRes hs (mOf hs (d : Int) n) r := by
      unfold mOf
      rw [Int.toNat_natCast]
      by_cases h0 : n = 0
      · obtain ⟨r, hr, hres⟩ := refLoop hs (by omega) _ d n (by omega) rfl (by omega) hn1
        refine ⟨r, Ev.step (f := fun k => insolvencyref1_AddDays.j1 k n hs (d : Int)) (fun k => ?_) (Ev.step (f := fun k => insolvencyref1_AddDays.l0 k n hs (d : Int)) (fun k => ?_) hr), ?_⟩
        · rw [insolvencyref1_AddDays.j0, if_neg (by simp), if_neg (by omega)]
        · rw [insolvencyref1_AddDays.j1]
        · rw [if_pos h0]
          rw [if_pos (by omega : n ≤ 1)] at hres
          rw [show (cnt hs d : Int) + 1 - 1 = (cnt hs d : Int) by omega] at hres
          exact hres
      · obtain ⟨r, hr, hres⟩ := refLoop hs (by omega) _ (d + 1) n (by omega) rfl (by omega) hn1
        refine ⟨r, Ev.step (f := fun k => insolvencyref1_AddDays.j1 k n hs ((d + 1 : Nat) : Int)) (fun k => ?_) (Ev.step (f := fun k => insolvencyref1_AddDays.l0 k n hs ((d + 1 : Nat) : Int)) (fun k => ?_) hr), ?_⟩
        · rw [insolvencyref1_AddDays.j0, if_neg (by simp), if_pos (by omega), w64 _ (by omega) (by omega)]
          rfl
        · rw [insolvencyref1_AddDays.j1]
        · rw [if_neg h0]
          by_cases h3 : n ≤ 1
          · rw [if_pos h3] at hres
            rw [show n = 1 by omega]
            exact hres
          · rw [if_neg h3] at hres
            exact hres
    obtain ⟨r, hr, hres⟩ := start
    refine ⟨r, ?_, IsAdd.ok h1 h2' hres⟩
    refine ev_else h1 (ev_then (refDay_some _) (ev_if hd (ev_else (show ¬ n < 0 by omega) ?_)))
    rw [decide_eq_false (show ¬ n > 1048576 by omega)]
    exact hr
  · refine ⟨(0, 1), ?_, IsAdd.bad h1 h2⟩
    refine ev_else h1 (ev_then (refDay_some _) ?_)
    by_cases hd : isD day = true
    · refine ev_if hd ?_
      by_cases hn : n < 0
      · exact ev_if hn (bad _ rfl)
      · exact ev_else hn (bad _ (decide_eq_true (show n > 1048576 from by
          have h3 : ¬ (0 ≤ n ∧ n ≤ 1048576) := fun z => h2 ⟨hd, z⟩
          omega)))
    · exact ev_else hd (bad _ rfl)
/-- Add and AddDays answer alike. -/
theorem adds (hs : List Int) (day n : Int) : ∃ r, Ev (fun k => calendar_Add.f k day n hs) r ∧ Ev (fun k => insolvencyref1_AddDays.f k day n hs) r ∧ IsAdd hs day n r := by
  obtain ⟨r, h1, h2⟩ := add_ev hs day n
  obtain ⟨q, k1, k2⟩ := refAdd_ev hs day n
  obtain rfl := h2.unique k2
  exact ⟨r, h1, k1, h2⟩
end Go.Proofs.Ytpfiecjacpbhkaa.Hx

/- New and the comparison of dockets, in the words of the plain law: what the printed functions come to, after rounds enough. -/
namespace Go.Proofs.Ytpfiecjacpbhkaa.D
open Go.RowKit Go.Proofs.YtpfiecjacpbhkaaW.PrintWords Go.Proofs.YtpfiecjacpbhkaaW.PrintLast Go.Proofs.YtpfiecjacpbhkaaW.PrintMore Hx
set_option linter.unusedVariables false
set_option linter.unusedSimpArgs false

theorem awake_ev : Ev (fun k => insolvencylaw33_awake.f k) true := Ev.of (k := 64) (fun k => insolvencylaw33_awake.mono k) (by kernel_rfl)

/-- The error of a day and of terms. -/
def ctE (day ans app : Int) (n : Nat) : Int :=
  if day < 0 ∨ 1048576 < day then 1 else if 1000 < n then 2 else if (ans < 1 ∨ 250 < ans) ∨ app < 1 ∨ 250 < app then 1 else 0
theorem checkTerms_ev (day ans app : Int) (hs : List Int) : Ev (fun k => docket_checkTerms.f k day ans app hs) (ctE day ans app hs.length) := by
  refine ⟨1, fun k hk => ?_⟩
  obtain ⟨k, rfl⟩ : ∃ m, k = m + 1 := ⟨k - 1, by omega⟩
  show docket_checkTerms.f (k + 1) day ans app hs = _
  unfold docket_checkTerms.f docket_checkTerms.j0 ctE
  repeat' split
  all_goals first | rfl | (exfalso; simp at *; done) | (exfalso; simp at *; omega)
theorem refCheckTerms_some (day ans app : Int) (hs : List Int) : insolvencyref33_checkTerms.f day ans app hs = some (ctE day ans app hs.length) := by
  unfold insolvencyref33_checkTerms.f insolvencyref33_day.f ctE
  by_cases h0 : day ≥ 0
  · rw [if_pos h0, Option.bind_some]
    repeat' split
    all_goals first | rfl | (exfalso; simp at *; done) | (exfalso; simp at *; omega)
  · rw [if_neg h0, Option.bind_some, if_neg (by simp), if_pos (by omega)]
theorem ctE_len {day ans app : Int} {n : Nat} (h : ctE day ans app n = 0) : n ≤ 1000 := by
  unfold ctE at h
  split at h
  · cases h
  · split at h
    · cases h
    · omega

theorem cloneInts_some (l : List Int) (h : l.length < 17592186044416) : cloneInts.f l = some l := by
  unfold cloneInts.f
  rw [Option.bind_some, if_pos (by simpa using h), List.nil_append]

abbrev Dn := Int × Int × Int × List Int × List S50 × Int
def newV (day ans app : Int) (hs : List Int) : Dn := if ctE day ans app hs.length = 0 then (day, ans, app, hs, [], 0) else (0, 0, 0, [], [], ctE day ans app hs.length)
theorem newV_ok {day ans app : Int} {hs : List Int} (h : ctE day ans app hs.length = 0) : newV day ans app hs = (day, ans, app, hs, [], 0) := if_pos h
theorem newV_err {day ans app : Int} {hs : List Int} (h : ¬ ctE day ans app hs.length = 0) : newV day ans app hs = (0, 0, 0, [], [], ctE day ans app hs.length) := if_neg h
theorem new_ev (day ans app : Int) (hs : List Int) : Ev (fun k => docket_New.f k day ans app hs) (newV day ans app hs) := by
  unfold docket_New.f
  refine Ev.bind (checkTerms_ev day ans app hs) ?_
  by_cases h : ctE day ans app hs.length = 0
  · rw [newV_ok h]
    refine ev_if h (ev_then (a := (ans, app, hs)) ?_ (Ev.now _))
    unfold docket_copyTerms.f
    rw [cloneInts_some hs (by have := ctE_len h; omega)]
    rfl
  · rw [newV_err h]
    exact ev_else h (Ev.now _)
theorem refNew_some (day ans app : Int) (hs : List Int) : insolvencyref33_NewDocket.f day ans app hs = some (newV day ans app hs) := by
  unfold insolvencyref33_NewDocket.f
  rw [refCheckTerms_some, Option.bind_some]
  by_cases h : ctE day ans app hs.length = 0
  · rw [newV_ok h, if_pos h, Option.bind_some, if_pos (by have := ctE_len h; simp; omega), List.nil_append]
  · rw [newV_err h, if_neg h]

/-! ### comparison -/
theorem ints_loop (l : List Int) (hl : l.length < 4611686018427387904) : ∀ (n i : Nat), i ≤ l.length → l.length - i = n → Ev (fun k => insolvencyref1_SameInts.l0 k l l (i : Int)) true
  | 0, i, h1, h2 => by
    refine Ev.step (fun k => rfl) (ev_else ?_ (Ev.now _))
    omega
  | n + 1, i, h1, h2 => by
    refine Ev.step (fun k => rfl) (ev_if (by omega) (ev_if (by omega) (ev_if (by omega) (ev_if rfl ?_))))
    have e : wrap64 ((i : Int) + 1) = ((i + 1 : Nat) : Int) := by rw [w64 _ (by omega) (by omega)]; omega
    rw [e]
    exact ints_loop l hl n (i + 1) (by omega) (by omega)
theorem sameInts_ev (l : List Int) (hl : l.length < 4611686018427387904) : Ev (fun k => insolvencyref1_SameInts.f k l l) true :=
  ev_if rfl (ints_loop l hl l.length 0 (Nat.zero_le _) (by omega))
theorem dock_loop (d a p : Int) (hs : List Int) (l : List S50) (hl : l.length < 4611686018427387904) : ∀ (n i : Nat), i ≤ l.length → l.length - i = n → Ev (fun k => insolvencyref33_SameDocket.l0 k (i : Int) d a p hs l d a p hs l) true
  | 0, i, h1, h2 => by
    refine Ev.step (fun k => rfl) (ev_else ?_ (Ev.now _))
    omega
  | n + 1, i, h1, h2 => by
    refine Ev.step (fun k => rfl) (ev_if (by omega) (ev_if (by omega) (ev_if (by omega) (ev_else (by simp) ?_))))
    have e : wrap64 ((i : Int) + 1) = ((i + 1 : Nat) : Int) := by rw [w64 _ (by omega) (by omega)]; omega
    rw [e]
    exact dock_loop d a p hs l hl n (i + 1) (by omega) (by omega)
theorem sameDocket_ev (d a p : Int) (hs : List Int) (l : List S50) (hh : hs.length < 4611686018427387904) (hl : l.length < 4611686018427387904) : Ev (fun k => insolvencyref33_SameDocket.f k d a p hs l d a p hs l) true := by
  unfold insolvencyref33_SameDocket.f
  refine ev_if rfl (ev_if rfl (ev_if rfl (Ev.bind (sameInts_ev hs hh) (ev_if rfl ?_))))
  refine Ev.step (fun k => rfl) (ev_else (by simp) ?_)
  exact dock_loop d a p hs l hl l.length 0 (Nat.zero_le _) (by omega)
end Go.Proofs.Ytpfiecjacpbhkaa.D

/- Check and Advance of dockets, in the words of the plain law. -/
namespace Go.Proofs.Ytpfiecjacpbhkaa.D
open Go.RowKit Go.Proofs.YtpfiecjacpbhkaaW.PrintWords Go.Proofs.YtpfiecjacpbhkaaW.PrintLast Go.Proofs.YtpfiecjacpbhkaaW.PrintMore Hx
set_option linter.unusedVariables false
set_option linter.unusedSimpArgs false

def isRun (m : S50) : Bool := m.f1 == 2 || m.f1 == 4
def soundP (day : Int) (m : S50) : Prop :=
  (1 ≤ m.f1 ∧ m.f1 ≤ 6 ∧ 0 ≤ m.f3 ∧ m.f3 < 4) ∧ ((m.f1 = 2 ∨ m.f1 = 4) ∧ day ≤ m.f2 ∧ m.f2 ≤ 1048576 ∨ ¬ (m.f1 = 2 ∨ m.f1 = 4) ∧ m.f2 = 0) ∧ (m.f1 ≤ 3 → m.f3 = 0) ∧ (m.f4 = true → m.f1 = 6 ∧ m.f3 = 0)
instance (day : Int) (m : S50) : Decidable (soundP day m) := by unfold soundP; infer_instance

theorem sound_ev (day : Int) (m : S50) : Ev (fun k => docket_sound.f k m.f0 m.f1 m.f2 m.f3 m.f4 day) (decide (soundP day m)) := by
  refine ⟨3, fun k hk => ?_⟩
  obtain ⟨k, rfl⟩ : ∃ m, k = m + 3 := ⟨k - 3, by omega⟩
  obtain ⟨f0, f1, f2, f3, f4⟩ := m
  show docket_sound.f (k + 3) f0 f1 f2 f3 f4 day = some (decide (soundP day ⟨f0, f1, f2, f3, f4⟩))
  by_cases hs : 1 ≤ f1 ∧ f1 ≤ 6 ∧ 0 ≤ f3 ∧ f3 < 4
  · have e1 : f1 = 1 ∨ f1 = 2 ∨ f1 = 3 ∨ f1 = 4 ∨ f1 = 5 ∨ f1 = 6 := by omega
    have a1 : ¬ f3 < 0 := by omega
    have a2 : ¬ 4 ≤ f3 := by omega
    have a3 : 0 ≤ f3 := by omega
    have a4 : f3 < 4 := by omega
    by_cases b1 : f2 < day <;> by_cases b2 : 1048576 < f2 <;> by_cases b3 : f2 = 0 <;> by_cases b4 : f3 = 0 <;> cases f4 <;> rcases e1 with rfl | rfl | rfl | rfl | rfl | rfl
    all_goals try subst b3
    all_goals try subst b4
    all_goals first | (simp [docket_sound.f, docket_sound.j0, docket_sound.j1, docket_sound.j2, docket_running.f, soundP, a1, a2, a3, a4, *]; done) | (simp [docket_sound.f, docket_sound.j0, docket_sound.j1, docket_sound.j2, docket_running.f, soundP, a1, a2, a3, a4, *]; omega)
  · have hs2 : ¬ soundP day ⟨f0, f1, f2, f3, f4⟩ := fun h => hs h.1
    rw [decide_eq_false hs2]
    have key : ∀ b, docket_sound.j0 (k + 3) day b f0 f1 f2 f3 f4 = some false := by
      intro b
      simp only [docket_sound.j0]
      by_cases h1 : f1 < 1
      · rw [if_pos h1]
        rfl
      · rw [if_neg h1]
        by_cases h2 : f1 > 6
        · rw [if_pos h2]
          rfl
        · rw [if_neg h2]
          by_cases h3 : f3 < 0
          · rw [if_pos h3]
            rfl
          · rw [if_neg h3, decide_eq_true (show f3 ≥ 4 by omega)]
            rfl
    unfold docket_sound.f
    rw [key, key]
    simp

/-! ### Check -/
theorem fnd_any (x : Int) : ∀ (l : List S50) (i : Nat), (0 ≤ fnd x l i) = (l.any (fun m => m.f0 == x) = true)
  | [], i => by simp [fnd]
  | y :: r, i => by
    unfold fnd
    by_cases h : y.f0 = x
    · rw [if_pos h]
      simp [h]
    · rw [if_neg h, fnd_any x r (i + 1)]
      simp [h]
def chkL (day : Int) : List S50 → List S50 → Int
  | _, [] => 0
  | pre, m :: r => if m.f0 < 0 then 1 else if pre.any (fun x => x.f0 == m.f0) = true then 12 else if soundP day m then chkL day (pre ++ [m]) r else 1
def chkV (day ans app : Int) (hs : List Int) (ms : List S50) : Int := if ctE day ans app hs.length = 0 then if 32 < ms.length then 2 else chkL day [] ms else ctE day ans app hs.length
theorem rdM {ms : List S50} {i : Nat} (h : i < ms.length) : rd_T50 ms (i : Int) = ms[i] := by
  unfold rd_T50
  rw [Int.toNat_natCast, List.getD_eq_getElem?_getD, List.getElem?_eq_getElem h]
  rfl
theorem find_some (l : List S50) (x : Int) (h : l.length < 4611686018427387904) : docket_find.f l x = some (fnd x l 0) := by unfold docket_find.f; rw [if_pos h]
theorem wn (i n : Nat) (h : i < n) (hn : n < 4611686018427387904) : wrap64 ((i : Int) + 1) = ((i + 1 : Nat) : Int) := by rw [w64 _ (by omega) (by omega)]; omega
theorem check_loop (day ans app : Int) (hs : List Int) (ms : List S50) (hl : ms.length < 4611686018427387904) : ∀ (n i : Nat), i ≤ ms.length → ms.length - i = n →
    Ev (fun k => docket_Check.l0 k ms (ms.length : Int) (i : Int) day ans app hs ms) (chkL day (ms.take i) (ms.drop i))
  | 0, i, h1, h2 => by
    obtain rfl : i = ms.length := by omega
    rw [List.drop_length, chkL]
    exact Ev.step (fun k => rfl) (ev_else (by omega) (Ev.now _))
  | n + 1, i, h1, h2 => by
    have hi : i < ms.length := by omega
    rw [List.drop_eq_getElem_cons hi, chkL]
    refine Ev.step (fun k => rfl) (ev_if (by omega) (ev_if (by omega) (ev_if (by omega) ?_)))
    rw [rdM hi, Int.toNat_natCast]
    by_cases h3 : ms[i].f0 < 0
    · rw [if_pos h3]
      exact ev_if h3 (Ev.now _)
    rw [if_neg h3]
    refine ev_else h3 (ev_if (by omega) (ev_then (find_some _ _ (by rw [List.length_take]; omega)) ?_))
    by_cases h4 : (ms.take i).any (fun x => x.f0 == ms[i].f0) = true
    · rw [if_pos h4]
      exact ev_if (by rw [ge_iff_le, fnd_any]; exact h4) (Ev.now _)
    rw [if_neg h4]
    refine ev_else (by rw [ge_iff_le, fnd_any]; exact h4) (Ev.bind (sound_ev day ms[i]) ?_)
    by_cases h5 : soundP day ms[i]
    · rw [if_pos h5]
      refine ev_if (decide_eq_true h5) ?_
      rw [wn i _ hi hl, List.take_append_getElem hi]
      exact check_loop day ans app hs ms hl n (i + 1) (by omega) (by omega)
    · rw [if_neg h5]
      exact ev_else (by simpa using h5) (Ev.now _)
theorem check_ev (day ans app : Int) (hs : List Int) (ms : List S50) : Ev (fun k => docket_Check.f k day ans app hs ms) (chkV day ans app hs ms) := by
  unfold docket_Check.f chkV
  refine Ev.bind (checkTerms_ev day ans app hs) ?_
  by_cases h : ctE day ans app hs.length = 0
  · rw [if_pos h]
    refine ev_if h ?_
    by_cases h2 : 32 < ms.length
    · rw [if_pos h2]
      exact ev_if (by omega) (Ev.now _)
    · rw [if_neg h2]
      exact ev_else (by omega) (check_loop day ans app hs ms (by omega) ms.length 0 (Nat.zero_le _) (by omega))
  · rw [if_neg h]
    exact ev_else h (Ev.now _)

/-- A docket that Check accepts. -/
theorem chkL_ok (day : Int) : ∀ (r pre : List S50), chkL day pre r = 0 ↔ ((∀ m ∈ r, 0 ≤ m.f0 ∧ soundP day m) ∧ (r.map (·.f0)).Nodup ∧ ∀ m ∈ r, ∀ x ∈ pre, x.f0 ≠ m.f0)
  | [], pre => by simp [chkL]
  | m :: r, pre => by
    unfold chkL
    by_cases h1 : m.f0 < 0
    · rw [if_pos h1]
      constructor
      · intro h; cases h
      · rintro ⟨h, _, _⟩
        have := h m (by simp)
        omega
    rw [if_neg h1]
    by_cases h2 : pre.any (fun x => x.f0 == m.f0) = true
    · rw [if_pos h2]
      constructor
      · intro h; cases h
      · rintro ⟨_, _, h⟩
        obtain ⟨x, hx, he⟩ := List.any_eq_true.1 h2
        exact absurd (by simpa using he) (h m (by simp) x hx)
    rw [if_neg h2]
    have hp : ∀ x ∈ pre, x.f0 ≠ m.f0 := fun x hx he => h2 (List.any_eq_true.2 ⟨x, hx, by simpa using he⟩)
    by_cases h3 : soundP day m
    · rw [if_pos h3, chkL_ok day r (pre ++ [m])]
      constructor
      · rintro ⟨a, b, c⟩
        refine ⟨fun x hx => ?_, ?_, fun x hx y hy => ?_⟩
        · rcases List.mem_cons.1 hx with rfl | hx
          · exact ⟨by omega, h3⟩
          · exact a x hx
        · rw [List.map_cons, List.nodup_cons]
          refine ⟨fun hm => ?_, b⟩
          obtain ⟨x, hx, he⟩ := List.mem_map.1 hm
          exact c x hx m (by simp) he.symm
        · rcases List.mem_cons.1 hx with rfl | hx
          · exact hp y hy
          · exact c x hx y (by simp [hy])
      · rintro ⟨a, b, c⟩
        rw [List.map_cons, List.nodup_cons] at b
        refine ⟨fun x hx => a x (by simp [hx]), b.2, fun x hx y hy => ?_⟩
        rcases List.mem_append.1 hy with hy | hy
        · exact c x (by simp [hx]) y hy
        · obtain rfl : y = m := by simpa using hy
          exact fun he => b.1 (List.mem_map.2 ⟨x, hx, he.symm⟩)
    · rw [if_neg h3]
      constructor
      · intro h; cases h
      · rintro ⟨a, _, _⟩
        exact absurd (a m (by simp)).2 h3

/-! ### Advance -/
def lapses (day : Int) (m : S50) : Prop := (m.f1 = 2 ∨ m.f1 = 4) ∧ m.f2 < day
instance (day : Int) (m : S50) : Decidable (lapses day m) := by unfold lapses; infer_instance
def lapM (day : Int) (m : S50) : S50 := if lapses day m then ⟨m.f0, 6, 0, m.f3, m.f1 == 2⟩ else m
def lapR (day : Int) (m : S50) : Option S52 := if lapses day m then some ⟨m.f0, wrap64 (m.f2 + 1), m.f3⟩ else none
theorem running_some (a b c d : Int) (e : Bool) : docket_running.f a b c d e = some (b == 2 || b == 4) := by
  unfold docket_running.f
  by_cases h : b = 2
  · simp [h]
  · rw [if_neg h]
    simp [h]
theorem rd_mid (done r : List S50) (m : S50) : rd_T50 (done ++ m :: r) (done.length : Int) = m := by
  rw [rdM (by simp)]
  simp
theorem set_mid (done r : List S50) (m m' : S50) : (done ++ m :: r).set (done.length : Int).toNat m' = done ++ m' :: r := by
  rw [Int.toNat_natCast, List.set_append_right _ _ (Nat.le_refl _)]
  simp
theorem adv_loop (day ans app : Int) (hs : List Int) : ∀ (rest done : List S50) (acc : List S52) (n : Int), n = ((done ++ rest).length : Int) → (done ++ rest).length < 1000000 → (acc ++ rest.filterMap (lapR day)).length ≤ 12 →
    Ev (fun k => docket_advance.l0 k day acc n (done.length : Int) day ans app hs (done ++ rest)) (day, ans, app, hs, done ++ rest.map (lapM day), sortR (acc ++ rest.filterMap (lapR day)))
  | [], done, acc, n, hn, h1, h2 => by
    subst hn
    refine Ev.step (fun k => rfl) (ev_else (by simp) (ev_then (a := sortR acc) ?_ ?_))
    · unfold sortRulings.f
      rw [if_pos (by simpa using h2)]
    · simp only [List.filterMap_nil, List.append_nil, List.map_nil]
      exact Ev.now _
  | m :: r, done, acc, n, hn, h1, h2 => by
    subst hn
    have hlen : (done ++ m :: r).length = done.length + r.length + 1 := by simp; omega
    refine Ev.step (fun k => rfl) (ev_if (by rw [hlen]; omega) (ev_if (by omega) (ev_if (by rw [hlen]; omega) ?_)))
    rw [rd_mid]
    refine ev_then (running_some _ _ _ _ _) ?_
    have ew : wrap64 ((done.length : Int) + 1) = ((done.length + 1 : Nat) : Int) := wn _ _ (Nat.lt_succ_self _) (by omega)
    have stay : ¬ lapses day m → Ev (fun k => docket_advance.l0 k day acc ((done ++ m :: r).length : Int) (wrap64 ((done.length : Int) + 1)) day ans app hs (done ++ m :: r)) (day, ans, app, hs, done ++ (m :: r).map (lapM day), sortR (acc ++ (m :: r).filterMap (lapR day))) := by
      intro hn
      have ih := adv_loop day ans app hs r (done ++ [m]) acc ((done ++ m :: r).length : Int) (by simp) (by simpa using h1) (by
        have e : lapR day m = none := if_neg hn
        rw [List.filterMap_cons, e] at h2
        exact h2)
      have e1 : lapR day m = none := if_neg hn
      have e2 : lapM day m = m := if_neg hn
      rw [List.filterMap_cons, e1, List.map_cons, e2, ew]
      simpa using ih
    by_cases hr : m.f1 = 2 ∨ m.f1 = 4
    · refine ev_if (by simpa using hr) ?_
      by_cases hd : m.f2 ≥ day
      · exact ev_if hd (stay (fun h => by have := h.2; omega))
      · have hlap : lapses day m := ⟨hr, by omega⟩
        have e1 : lapR day m = some ⟨m.f0, wrap64 (m.f2 + 1), m.f3⟩ := if_pos hlap
        have e2 : lapM day m = ⟨m.f0, 6, 0, m.f3, m.f1 == 2⟩ := if_pos hlap
        rw [List.filterMap_cons, e1] at h2 ⊢
        rw [List.map_cons, e2]
        refine ev_else hd (ev_if (by simp at h2; omega) (ev_then rfl (ev_then rfl ?_)))
        rw [set_mid, rd_mid, set_mid, rd_mid, set_mid, ew]
        have ih := adv_loop day ans app hs r (done ++ [⟨m.f0, 6, 0, m.f3, m.f1 == 2⟩]) (acc ++ [⟨m.f0, wrap64 (m.f2 + 1), m.f3⟩]) ((done ++ m :: r).length : Int) (by simp) (by simpa using h1) (by simpa using h2)
        simpa using ih
    · exact ev_else (by simpa using hr) (stay (fun h => hr h.1))

theorem cloneMatters_some (l : List S50) (h : l.length < 1000000) : cloneMatters.f l = some l := by
  unfold cloneMatters.f
  rw [Option.bind_some, if_pos (by simp; omega), List.nil_append]
theorem advance_ev (d day ans app : Int) (hs : List Int) (ms : List S50) (h1 : hs.length < 1000000) (h2 : ms.length < 1000000) (h3 : (ms.filterMap (lapR day)).length ≤ 12) :
    Ev (fun k => docket_advance.f k d ans app hs ms day) (day, ans, app, hs, ms.map (lapM day), sortR (ms.filterMap (lapR day))) := by
  unfold docket_advance.f
  refine ev_then (a := (ans, app, hs)) (by unfold docket_copyTerms.f; rw [cloneInts_some hs (by omega)]; rfl) (ev_then (cloneMatters_some ms h2) ?_)
  exact adv_loop day ans app hs ms [] [] (ms.length : Int) (by simp) (by simpa using h2) (by simpa using h3)

/-- What Advance answers. -/
def advV (d ans app : Int) (hs : List Int) (ms : List S50) (day : Int) : Dk :=
  if chkV d ans app hs ms = 0 then if day < 0 ∨ 1048576 < day then dkErr 1 else if day < d then dkErr 15 else (day, ans, app, hs, ms.map (lapM day), sortR (ms.filterMap (lapR day)), 0) else dkErr (chkV d ans app hs ms)
theorem chkV_ok {d ans app : Int} {hs : List Int} {ms : List S50} (h : chkV d ans app hs ms = 0) : ctE d ans app hs.length = 0 ∧ hs.length ≤ 1000 ∧ ms.length ≤ 32 ∧ chkL d [] ms = 0 := by
  unfold chkV at h
  by_cases h1 : ctE d ans app hs.length = 0
  · rw [if_pos h1] at h
    by_cases h2 : 32 < ms.length
    · rw [if_pos h2] at h; cases h
    · rw [if_neg h2] at h
      exact ⟨h1, ctE_len h1, by omega, h⟩
  · rw [if_neg h1] at h
    exact absurd h h1
theorem advV_ev (d ans app : Int) (hs : List Int) (ms : List S50) (day : Int) (h : (ms.filterMap (lapR day)).length ≤ 12) : Ev (fun k => docket_Advance.f k d ans app hs ms day) (advV d ans app hs ms day) := by
  unfold docket_Advance.f
  refine Ev.bind (check_ev d ans app hs ms) ?_
  by_cases hc : chkV d ans app hs ms = 0
  · refine ev_if hc ?_
    obtain ⟨c1, c2, c3, c4⟩ := chkV_ok hc
    by_cases h1 : day < 0
    · have e : advV d ans app hs ms day = dkErr 1 := by unfold advV; rw [if_pos hc, if_pos (.inl h1)]
      rw [e]
      exact ev_if h1 ⟨1, fun k hk => by obtain ⟨k, rfl⟩ : ∃ m, k = m + 1 := ⟨k - 1, by omega⟩; rfl⟩
    · refine ev_else h1 ?_
      by_cases h2 : 1048576 < day
      · have e : advV d ans app hs ms day = dkErr 1 := by unfold advV; rw [if_pos hc, if_pos (.inr h2)]
        rw [e]
        exact Ev.step (fun k => rfl) (ev_if (by simpa using h2) (Ev.now _))
      · refine Ev.step (fun k => rfl) (ev_else (by simpa using h2) ?_)
        by_cases h3 : day < d
        · have e : advV d ans app hs ms day = dkErr 15 := by unfold advV; rw [if_pos hc, if_neg (by omega), if_pos h3]
          rw [e]
          exact ev_if h3 (Ev.now _)
        · have e : advV d ans app hs ms day = (day, ans, app, hs, ms.map (lapM day), sortR (ms.filterMap (lapR day)), 0) := by unfold advV; rw [if_pos hc, if_neg (by omega), if_neg h3]
          rw [e]
          exact ev_else h3 (Ev.bind (advance_ev d day ans app hs ms (by omega) (by omega) h) (Ev.now _))
  · have e : advV d ans app hs ms day = dkErr (chkV d ans app hs ms) := by unfold advV; rw [if_neg hc]
    rw [e]
    exact ev_else hc (Ev.now _)
end Go.Proofs.Ytpfiecjacpbhkaa.D
