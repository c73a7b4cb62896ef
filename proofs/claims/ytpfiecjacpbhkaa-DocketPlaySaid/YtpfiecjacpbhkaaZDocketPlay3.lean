/- Part 3 of 6 of the proof of DocketPlay: texts of this claim put one behind the other by a program; each begins with its own words. -/
import Derived.Deep.RegionHeld3
import Derived.Test.YtpfiecjacpbhkaaProg
import Derived.Below
import Derived.Deep.Draws
import Derived.Deep.AppendLies
import Derived.Maps.AppendAt
import Derived.OwnWalk
import Derived.Laws.BytesArg
import Derived.Laws.MakeOwn
import Derived.Laws.OwnMore
import Derived.Deep.OwnRows
import Derived.Tactics
import Derived.Lib.ConvBytes
import Derived.Laws.Slices
import Derived.WalkKit
import Derived.KernelRfl
import Derived.RowKit3
import Derived.Deep.LoopGhost
import Derived.Deep.QuietTactic
import Derived.BigQuiet
import Derived.WideLaws
import Derived.Deep.DeepCutAuto
import Derived.Deep.CutBlock
import Derived.Laws.Rows
import Derived.Lib.AppendStr
import Derived.ArgAppend
import Derived.Laws.IdiomCopy
import Derived.OrdersHeld
import Derived.Laws.BitsLemmas
import Derived.RowKit
import Derived.Lib.SlicesCompact
import Derived.Shelf.Abstract
import Derived.Shelf.SlGeneric
import Derived.Shelf.SlicesG.CompactI
import Derived.Shelf.SortM.Plain
import Derived.Shelf.SortM.SortNone
import Derived.Ground.SlgmProg
import Derived.Ground.SlgnProg
import Derived.Sort.OwnSortedInts
import Derived.Test.YtpfiecjacpbhkaaZDocketPlay2
/- docket.change through its pointer: what it refuses, and the matter that it leaves. -/

namespace Go.Proofs.Ytpfiecjacpbhkaa.D
open Go.RowKit Go.Proofs.YtpfiecjacpbhkaaW.PrintWords Go.Proofs.YtpfiecjacpbhkaaW.PrintLast Go.Proofs.YtpfiecjacpbhkaaW.PrintMore
set_option linter.unusedVariables false
set_option linter.unusedSimpArgs false

def chgWorld (w : World) (kind day id opt ans app : Int) (v : Value) : World :=
  ((w.alloc (.cells #[.int .i64 kind, .int .i64 day, .int .i64 id, .int .i64 opt] 47 (0, 0))).alloc (.cells #[.int .i64 ans, .int .i64 app, v] 27 (0, 0))).alloc
    (.cells #[.int .i64 0, .int .i64 0, .int .i64 1, .int .i64 2, .int .i64 3, .int .i64 4, .int .i64 5] 104 (0, 0))
theorem chg_below (w : World) (kind day id opt ans app : Int) (v : Value) : Below w.heap.size w (chgWorld w kind day id opt ans app v) := by
  unfold chgWorld
  exact below_alloc (below_alloc (below_alloc (Below.refl _ _) _) _) _
theorem chg_file (w : World) (kind day id opt ans app : Int) (v : Value) : (chgWorld w kind day id opt ans app v).heap[w.heap.size]? = some (.cells #[.int .i64 kind, .int .i64 day, .int .i64 id, .int .i64 opt] 47 (0, 0)) :=
  blk_alloc (blk_alloc (blk_new w _) _) _
theorem chg_terms (w : World) (kind day id opt ans app : Int) (v : Value) : (chgWorld w kind day id opt ans app v).heap[w.heap.size + 1]? = some (.cells #[.int .i64 ans, .int .i64 app, v] 27 (0, 0)) := by
  have := blk_new (w.alloc (.cells #[.int .i64 kind, .int .i64 day, .int .i64 id, .int .i64 opt] 47 (0, 0))) (.cells #[.int .i64 ans, .int .i64 app, v] 27 (0, 0))
  exact blk_alloc (by simpa using this) _
theorem chg_tab (w : World) (kind day id opt ans app : Int) (v : Value) : (chgWorld w kind day id opt ans app v).heap[w.heap.size + 1 + 1]? = some (.cells #[.int .i64 0, .int .i64 0, .int .i64 1, .int .i64 2, .int .i64 3, .int .i64 4, .int .i64 5] 104 (0, 0)) := by
  have := blk_new ((w.alloc (.cells #[.int .i64 kind, .int .i64 day, .int .i64 id, .int .i64 opt] 47 (0, 0))).alloc (.cells #[.int .i64 ans, .int .i64 app, v] 27 (0, 0))) (.cells #[.int .i64 0, .int .i64 0, .int .i64 1, .int .i64 2, .int .i64 3, .int .i64 4, .int .i64 5] 104 (0, 0))
  simpa [chgWorld] using this

theorem chg_from (w : World) (kind day id opt ans app : Int) (v : Value) (hk : 2 ≤ kind ∧ kind ≤ 6) : (chgWorld w kind day id opt ans app v).cell? ⟨w.heap.size + 1 + 1, kind.toNat, none⟩ = some (.int .i64 (kind - 1)) := by
  have hkk : kind = 2 ∨ kind = 3 ∨ kind = 4 ∨ kind = 5 ∨ kind = 6 := by omega
  have q := chg_tab w kind day id opt ans app v
  rcases hkk with rfl | rfl | rfl | rfl | rfl
  · exact (blk_cell q 2).trans rfl
  · exact (blk_cell q 3).trans rfl
  · exact (blk_cell q 4).trans rfl
  · exact (blk_cell q 5).trans rfl
  · exact (blk_cell q 6).trans rfl

set_option maxHeartbeats 8000000 in
set_option maxRecDepth 100000 in
theorem change_state (b o : Nat) (kind day id opt ans app st : Int) (v : Value) (w : World) (hk : 2 ≤ kind ∧ kind ≤ 6)
    (hc1 : w.cell? ⟨b, o + 1, none⟩ = some (.int .i64 st)) (hne : st ≠ kind - 1) :
    Calls Try.prog 38 #[.pointer (some ⟨b, o, none⟩), .agg #[.int .i64 kind, .int .i64 day, .int .i64 id, .int .i64 opt], .agg #[.int .i64 ans, .int .i64 app, v]] w fun e w' => e = .returned (.int .i64 13) ∧ Below w.heap.size w w' := by
  have hu := Try.underlying47
  have hu2 := Try.underlying27
  have hu3 := Try.underlying50
  have hu4 := Try.underlying104
  have B4 := chg_below w kind day id opt ans app v
  have q1 := pw_cell_below B4 hc1
  have q2 := chg_from w kind day id opt ans app v hk
  have q3 := (blk_cell (chg_file w kind day id opt ans app v) 0).trans rfl
  go_enter Try.func38, Try.ntmps38
  go_wp2_with (fail)
  change Code.wp _ _ _ _ (chgWorld w kind day id opt ans app v)
  generalize chgWorld w kind day id opt ans app v = W4 at *
  have p1 : (0 ≤ kind) = True := eq_true (by omega)
  have p2 : (kind < 7) = True := eq_true (by omega)
  have hd2 : (st != kind - 1) = true := by simpa using hne
  clear hc1 hne hk
  generalize kind - 1 = km at *
  go_region_held3 (fun w_ => w_.cell? ⟨b, o + 1, none⟩ = some (.int .i64 st) ∧ w_.cell? ⟨w.heap.size, 0, none⟩ = some (.int .i64 kind) ∧ w_.cell? ⟨w.heap.size + 1 + 1, kind.toNat, none⟩ = some (.int .i64 km)) (first | exact ⟨q1, q3, q2⟩ | go_keep) (fail)
  go_wp2
  go_ret
  exact ⟨rfl, below_drew1 B4⟩
/-- The condition of the call of calendar.Add at whatever later world. -/
def AddAt (w : World) (day n : Int) (v : Value) (ad : Int × Int) : Prop :=
  ∀ w1, Below w.heap.size w w1 → Calls Try.prog 58 #[.int .i64 day, .int .i64 n, v] w1 fun e w2 => e = .returned (.tuple #[.int .i64 ad.1, .int .i64 ad.2]) ∧ Below w1.heap.size w1 w2

set_option maxHeartbeats 8000000 in
set_option maxRecDepth 100000 in
theorem change_opt (b o : Nat) (kind day id opt ans app : Int) (v : Value) (w : World) (hk : kind = 4 ∨ kind = 6) (ho : opt < 0 ∨ 4 ≤ opt)
    (hc1 : w.cell? ⟨b, o + 1, none⟩ = some (.int .i64 (kind - 1))) :
    Calls Try.prog 38 #[.pointer (some ⟨b, o, none⟩), .agg #[.int .i64 kind, .int .i64 day, .int .i64 id, .int .i64 opt], .agg #[.int .i64 ans, .int .i64 app, v]] w fun e w' => e = .returned (.int .i64 41) ∧ Below w.heap.size w w' := by
  have hu := Try.underlying47
  have hu2 := Try.underlying27
  have hu3 := Try.underlying50
  have hu4 := Try.underlying104
  have B4 := chg_below w kind day id opt ans app v
  have q1 := pw_cell_below B4 hc1
  have q2 := chg_from w kind day id opt ans app v (by omega)
  have q3 := (blk_cell (chg_file w kind day id opt ans app v) 0).trans rfl
  have q5 := (blk_cell (chg_file w kind day id opt ans app v) 3).trans rfl
  go_enter Try.func38, Try.ntmps38
  go_wp2_with (fail)
  change Code.wp _ _ _ _ (chgWorld w kind day id opt ans app v)
  generalize chgWorld w kind day id opt ans app v = W4 at *
  have p1 : (0 ≤ kind) = True := eq_true (by omega)
  have p2 : (kind < 7) = True := eq_true (by omega)
  clear hc1
  go_region_held3 (fun w_ => w_.cell? ⟨b, o + 1, none⟩ = some (.int .i64 (kind - 1)) ∧ w_.cell? ⟨w.heap.size, 0, none⟩ = some (.int .i64 kind) ∧ w_.cell? ⟨w.heap.size + 1 + 1, kind.toNat, none⟩ = some (.int .i64 (kind - 1))) (first | exact ⟨q1, q3, q2⟩ | go_keep) (fail)
  have B5 := below_drew1 B4
  replace q3 : W4.drew.cell? ⟨w.heap.size, 0, none⟩ = some (.int .i64 kind) := q3
  replace q5 : W4.drew.cell? ⟨w.heap.size, 3, none⟩ = some (.int .i64 opt) := q5
  generalize W4.drew = W5 at *
  clear q1 q2 p1 p2 B4
  by_cases h0 : opt < 0
  · have hd : decide (opt < 0) = true := decide_eq_true h0
    clear ho
    rcases hk with rfl | rfl
    all_goals go_wp2
    all_goals go_ret
    all_goals exact ⟨rfl, B5⟩
  · have hd : decide (opt < 0) = false := decide_eq_false h0
    have hd2 : decide (4 ≤ opt) = true := decide_eq_true (by omega)
    clear ho h0
    rcases hk with rfl | rfl
    all_goals go_wp2
    all_goals go_ret
    all_goals exact ⟨rfl, B5⟩

set_option maxHeartbeats 8000000 in
set_option maxRecDepth 100000 in
theorem change_add (b o : Nat) (kind day id opt ans app : Int) (v : Value) (ad : Int × Int) (w : World) (hk : kind = 2 ∨ kind = 4 ∧ 0 ≤ opt ∧ opt < 4)
    (hc1 : w.cell? ⟨b, o + 1, none⟩ = some (.int .i64 (kind - 1))) (ha : AddAt w day (if kind = 2 then ans else app) v ad) (he : ad.2 ≠ 0) :
    Calls Try.prog 38 #[.pointer (some ⟨b, o, none⟩), .agg #[.int .i64 kind, .int .i64 day, .int .i64 id, .int .i64 opt], .agg #[.int .i64 ans, .int .i64 app, v]] w fun e w' => e = .returned (.int .i64 ad.2) ∧ Below w.heap.size w w' := by
  have hu := Try.underlying47
  have hu2 := Try.underlying27
  have hu3 := Try.underlying50
  have hu4 := Try.underlying104
  have B4 := chg_below w kind day id opt ans app v
  have q1 := pw_cell_below B4 hc1
  have q2 := chg_from w kind day id opt ans app v (by omega)
  have q3 := (blk_cell (chg_file w kind day id opt ans app v) 0).trans rfl
  have q4 := (blk_cell (chg_file w kind day id opt ans app v) 1).trans rfl
  have q5 := (blk_cell (chg_file w kind day id opt ans app v) 3).trans rfl
  have q6 := (blk_cell (chg_terms w kind day id opt ans app v) 0).trans rfl
  have q7 := (blk_cell (chg_terms w kind day id opt ans app v) 1).trans rfl
  have q8 := (blk_cell (chg_terms w kind day id opt ans app v) 2).trans rfl
  go_enter Try.func38, Try.ntmps38
  go_wp2_with (fail)
  change Code.wp _ _ _ _ (chgWorld w kind day id opt ans app v)
  generalize chgWorld w kind day id opt ans app v = W4 at *
  have p1 : (0 ≤ kind) = True := eq_true (by omega)
  have p2 : (kind < 7) = True := eq_true (by omega)
  clear hc1
  go_region_held3 (fun w_ => w_.cell? ⟨b, o + 1, none⟩ = some (.int .i64 (kind - 1)) ∧ w_.cell? ⟨w.heap.size, 0, none⟩ = some (.int .i64 kind) ∧ w_.cell? ⟨w.heap.size + 1 + 1, kind.toNat, none⟩ = some (.int .i64 (kind - 1))) (first | exact ⟨q1, q3, q2⟩ | go_keep) (fail)
  have B5 := below_drew1 B4
  replace q3 : W4.drew.cell? ⟨w.heap.size, 0, none⟩ = some (.int .i64 kind) := q3
  replace q4 : W4.drew.cell? ⟨w.heap.size, 1, none⟩ = some (.int .i64 day) := q4
  replace q5 : W4.drew.cell? ⟨w.heap.size, 3, none⟩ = some (.int .i64 opt) := q5
  replace q6 : W4.drew.cell? ⟨w.heap.size + 1, 0, none⟩ = some (.int .i64 ans) := q6
  replace q7 : W4.drew.cell? ⟨w.heap.size + 1, 1, none⟩ = some (.int .i64 app) := q7
  replace q8 : W4.drew.cell? ⟨w.heap.size + 1, 2, none⟩ = some v := q8
  generalize W4.drew = W5 at *
  clear q1 q2 p1 p2 B4
  have hA := ha W5 B5
  have he2 : (ad.2 != 0) = true := by simpa using he
  obtain ⟨a1, a2⟩ := ad
  clear ha he
  rcases hk with rfl | ⟨rfl, h0, h1⟩
  · rw [if_pos rfl] at hA
    go_wp2_with (go_at_call 58; refine hA.mono ?_; rintro e w2 ⟨rfl, hb⟩)
    go_ret
    exact ⟨rfl, below_step B5 hb⟩
  · rw [if_neg (by decide)] at hA
    have hd : decide (opt < 0) = false := decide_eq_false (by omega)
    have hd2 : decide (4 ≤ opt) = false := decide_eq_false (by omega)
    go_wp2_with (go_at_call 58; refine hA.mono ?_; rintro e w2 ⟨rfl, hb⟩)
    go_ret
    exact ⟨rfl, below_step B5 hb⟩
section
variable {e base g n cap : Nat} {ok : Nat → Prop} {W : World} {xs : List S50}
theorem rd_set (xs : List S50) (i : Int) (m : S50) (h0 : 0 ≤ i) (h1 : i < xs.length) : rd_T50 (xs.set i.toNat m) i = m := by
  unfold rd_T50
  rw [List.getD_eq_getElem?_getD, List.getElem?_set_self (by omega)]
  rfl
theorem put1 (h : Kd.R k50 e W base ok (.slice (some ⟨g, 0, none⟩) n cap) xs) (i : Int) (h0 : 0 ≤ i) (h1 : i < n) (m : S50) (hm : rd_T50 xs i = m) (x : Int) :
    Kd.R k50 e (W.setCell ⟨g, i.toNat * 5 + 1, none⟩ (.int .i64 x)) base ok (.slice (some ⟨g, 0, none⟩) n cap) (xs.set i.toNat ⟨m.f0, x, m.f2, m.f3, m.f4⟩) ∧ W.grownBy (W.setCell ⟨g, i.toNat * 5 + 1, none⟩ (.int .i64 x)) (some g) := by
  obtain ⟨ce, hcl, hM, hcc, hfr⟩ := Kd.R_elem h z50 i h0 h1
  obtain rfl := k50_openM hM
  change rd_T50 xs i = m at hm
  have := Kd.R_seg h i h0 h1 (seg := [.int .i64 x]) (j := 1) hcl hcc (show 2 ≤ 5 from by decide) (x' := (⟨m.f0, x, m.f2, m.f3, m.f4⟩ : S50)) (by rw [← hm]; exact k50_mkM _ _ _ _) (fun _ hk => hk)
  exact this
theorem put2 (h : Kd.R k50 e W base ok (.slice (some ⟨g, 0, none⟩) n cap) xs) (i : Int) (h0 : 0 ≤ i) (h1 : i < n) (m : S50) (hm : rd_T50 xs i = m) (x : Int) :
    Kd.R k50 e (W.setCell ⟨g, i.toNat * 5 + 2, none⟩ (.int .i64 x)) base ok (.slice (some ⟨g, 0, none⟩) n cap) (xs.set i.toNat ⟨m.f0, m.f1, x, m.f3, m.f4⟩) ∧ W.grownBy (W.setCell ⟨g, i.toNat * 5 + 2, none⟩ (.int .i64 x)) (some g) := by
  obtain ⟨ce, hcl, hM, hcc, hfr⟩ := Kd.R_elem h z50 i h0 h1
  obtain rfl := k50_openM hM
  change rd_T50 xs i = m at hm
  have := Kd.R_seg h i h0 h1 (seg := [.int .i64 x]) (j := 2) hcl hcc (show 3 ≤ 5 from by decide) (x' := (⟨m.f0, m.f1, x, m.f3, m.f4⟩ : S50)) (by rw [← hm]; exact k50_mkM _ _ _ _) (fun _ hk => hk)
  exact this
theorem put3 (h : Kd.R k50 e W base ok (.slice (some ⟨g, 0, none⟩) n cap) xs) (i : Int) (h0 : 0 ≤ i) (h1 : i < n) (m : S50) (hm : rd_T50 xs i = m) (x : Int) :
    Kd.R k50 e (W.setCell ⟨g, i.toNat * 5 + 3, none⟩ (.int .i64 x)) base ok (.slice (some ⟨g, 0, none⟩) n cap) (xs.set i.toNat ⟨m.f0, m.f1, m.f2, x, m.f4⟩) ∧ W.grownBy (W.setCell ⟨g, i.toNat * 5 + 3, none⟩ (.int .i64 x)) (some g) := by
  obtain ⟨ce, hcl, hM, hcc, hfr⟩ := Kd.R_elem h z50 i h0 h1
  obtain rfl := k50_openM hM
  change rd_T50 xs i = m at hm
  have := Kd.R_seg h i h0 h1 (seg := [.int .i64 x]) (j := 3) hcl hcc (show 4 ≤ 5 from by decide) (x' := (⟨m.f0, m.f1, m.f2, x, m.f4⟩ : S50)) (by rw [← hm]; exact k50_mkM _ _ _ _) (fun _ hk => hk)
  exact this
end

/-- Due, then State, then (at some kinds) Option of element i are written. -/
theorem put_all {e base g n cap : Nat} {ok : Nat → Prop} {W : World} {xs : List S50} (h : Kd.R k50 e W base ok (.slice (some ⟨g, 0, none⟩) n cap) xs) (i : Int) (h0 : 0 ≤ i) (h1 : i < n) (m : S50) (hm : rd_T50 xs i = m) (d s o : Int) :
    Kd.R k50 e (((W.setCell ⟨g, i.toNat * 5 + 2, none⟩ (.int .i64 d)).setCell ⟨g, i.toNat * 5 + 1, none⟩ (.int .i64 s))) base ok (.slice (some ⟨g, 0, none⟩) n cap) (xs.set i.toNat ⟨m.f0, s, d, m.f3, m.f4⟩) ∧
    Kd.R k50 e (((W.setCell ⟨g, i.toNat * 5 + 2, none⟩ (.int .i64 d)).setCell ⟨g, i.toNat * 5 + 1, none⟩ (.int .i64 s)).setCell ⟨g, i.toNat * 5 + 3, none⟩ (.int .i64 o)) base ok (.slice (some ⟨g, 0, none⟩) n cap) (xs.set i.toNat ⟨m.f0, s, d, o, m.f4⟩) := by
  have hn : (n : Int) = xs.length := by have := (Kd.R_reads' h).1; omega
  have a := (put2 h i h0 h1 m hm d).1
  have b := (put1 a i h0 h1 _ (rd_set xs i _ h0 (by omega)) s).1
  rw [List.set_set] at b
  have c := (put3 b i h0 h1 _ (rd_set xs i _ h0 (by omega)) o).1
  rw [List.set_set] at c
  exact ⟨b, c⟩

def chgM (m : S50) (kind due opt : Int) : S50 := ⟨m.f0, kind, due, if kind = 4 ∨ kind = 6 then opt else m.f3, m.f4⟩

theorem elm {e base g n cap : Nat} {ok : Nat → Prop} {W : World} {xs : List S50} (h : Kd.R k50 e W base ok (.slice (some ⟨g, 0, none⟩) n cap) xs) (i : Int) (h0 : 0 ≤ i) (h1 : i < n) (m : S50) (hm : rd_T50 xs i = m) :
    W.cell? ⟨g, i.toNat * 5 + 1, none⟩ = some (.int .i64 m.f1) ∧ W.cell? ⟨g, i.toNat * 5 + 2, none⟩ = some (.int .i64 m.f2) ∧ W.cell? ⟨g, i.toNat * 5 + 3, none⟩ = some (.int .i64 m.f3) ∧
    W.frozen? ⟨g, i.toNat * 5 + 1, none⟩ = false ∧ W.frozen? ⟨g, i.toNat * 5 + 2, none⟩ = false ∧ W.frozen? ⟨g, i.toNat * 5 + 3, none⟩ = false := by
  obtain ⟨ce, hcl, hM, hcc, hfr⟩ := Kd.R_elem h z50 i h0 h1
  obtain rfl := k50_openM hM
  subst hm
  exact ⟨hcc 1 _ rfl, hcc 2 _ rfl, hcc 3 _ rfl, hfr 1, hfr 2, hfr 3⟩
theorem set_same (V : World) (g a b c : Nat) (x y z : Value) (k : Nat) (hk : k ≠ g) : (((V.setCell ⟨g, a, none⟩ x).setCell ⟨g, b, none⟩ y).setCell ⟨g, c, none⟩ z).heap[k]? = V.heap[k]? ∧ ((V.setCell ⟨g, a, none⟩ x).setCell ⟨g, b, none⟩ y).heap[k]? = V.heap[k]? := by
  constructor
  · rw [Below.heap_setCell _ _ _ k hk, Below.heap_setCell _ _ _ k hk, Below.heap_setCell _ _ _ k hk]
  · rw [Below.heap_setCell _ _ _ k hk, Below.heap_setCell _ _ _ k hk]

theorem chg_fin {g cap : Nat} {ok : Nat → Prop} {ms : List S50} {w0 w V : World} (hB : Below w0.heap.size w0 w) (hg0 : w0.heap.size ≤ g) (hBV : Below w.heap.size w V)
    (hr : Kd.R k50 50 V w0.heap.size ok (.slice (some ⟨g, 0, none⟩) ms.length cap) ms) (i : Int) (h0 : 0 ≤ i) (h1 : i < ms.length) (m : S50) (hm : rd_T50 ms i = m) (kind due opt : Int) (w' : World)
    (h : w' = if kind = 4 ∨ kind = 6 then ((V.setCell ⟨g, i.toNat * 5 + 2, none⟩ (.int .i64 due)).setCell ⟨g, i.toNat * 5 + 1, none⟩ (.int .i64 kind)).setCell ⟨g, i.toNat * 5 + 3, none⟩ (.int .i64 opt) else (V.setCell ⟨g, i.toNat * 5 + 2, none⟩ (.int .i64 due)).setCell ⟨g, i.toNat * 5 + 1, none⟩ (.int .i64 kind)) :
    Kd.R k50 50 w' w0.heap.size ok (.slice (some ⟨g, 0, none⟩) ms.length cap) (ms.set i.toNat (chgM m kind due opt)) ∧ Below w0.heap.size w0 w' ∧ ∀ k, k < w.heap.size → k ≠ g → w'.heap[k]? = w.heap[k]? := by
  have hV : Below w0.heap.size w0 V := below_then hB hB.size hBV
  have hs := fun k hk => set_same V g (i.toNat * 5 + 2) (i.toNat * 5 + 1) (i.toNat * 5 + 3) (.int .i64 due) (.int .i64 kind) (.int .i64 opt) k hk
  have hp := put_all hr i h0 h1 m hm due kind opt
  unfold chgM
  subst h
  by_cases hk : kind = 4 ∨ kind = 6
  · rw [if_pos hk, if_pos hk]
    exact ⟨hp.2, ((hV.setCell hg0 _).setCell hg0 _).setCell hg0 _, fun k h1 h2 => ((hs k h2).1).trans (hBV.block k h1)⟩
  · rw [if_neg hk, if_neg hk]
    exact ⟨hp.1, (hV.setCell hg0 _).setCell hg0 _, fun k h1 h2 => ((hs k h2).2).trans (hBV.block k h1)⟩

set_option maxHeartbeats 8000000 in
set_option maxRecDepth 100000 in
theorem change_ok (g : Nat) (i : Int) (cap : Nat) (ms : List S50) (ok : Nat → Prop) (kind day id opt ans app : Int) (v : Value) (ad : Int × Int) (w0 w : World) (hB : Below w0.heap.size w0 w) (h0 : 0 ≤ i) (h1 : i < ms.length)
    (hk : kind = 2 ∨ kind = 3 ∨ kind = 4 ∧ 0 ≤ opt ∧ opt < 4 ∨ kind = 5 ∨ kind = 6 ∧ 0 ≤ opt ∧ opt < 4) (hst : (rd_T50 ms i).f1 = kind - 1)
    (hr : Kd.R k50 50 w w0.heap.size ok (.slice (some ⟨g, 0, none⟩) ms.length cap) ms)
    (ha : if kind = 2 ∨ kind = 4 then AddAt w day (if kind = 2 then ans else app) v ad else ad = (0, 0)) (he : ad.2 = 0) :
    Calls Try.prog 38 #[.pointer (some ⟨g, i.toNat * 5, none⟩), .agg #[.int .i64 kind, .int .i64 day, .int .i64 id, .int .i64 opt], .agg #[.int .i64 ans, .int .i64 app, v]] w fun e w' => e = .returned (.int .i64 0) ∧
      Kd.R k50 50 w' w0.heap.size ok (.slice (some ⟨g, 0, none⟩) ms.length cap) (ms.set i.toNat (chgM (rd_T50 ms i) kind ad.1 opt)) ∧ Below w0.heap.size w0 w' ∧ ∀ k, k < w.heap.size → k ≠ g → w'.heap[k]? = w.heap[k]? := by
  have hu := Try.underlying47
  have hu2 := Try.underlying27
  have hu3 := Try.underlying50
  have hu4 := Try.underlying104
  have hg0 : w0.heap.size ≤ g := by
    rcases Kd.R_base2 hr with h | ⟨k, h, hk⟩
    · simp [Value.ownBlock] at h
    · have : g = k := by simpa [Value.ownBlock] using h
      omega
  have B4 := chg_below w kind day id opt ans app v
  generalize hm : rd_T50 ms i = m at *
  have hc1 := (elm hr i h0 h1 m hm).1
  rw [hst] at hc1
  have q1 := pw_cell_below B4 hc1
  have q2 := chg_from w kind day id opt ans app v (by omega)
  have k1 := chg_file w kind day id opt ans app v
  have k2 := chg_terms w kind day id opt ans app v
  have q3 := (blk_cell k1 0).trans rfl
  have hgl : g < w.heap.size := World.block_lt_of_cell? w _ hc1
  go_enter Try.func38, Try.ntmps38
  go_wp2_with (fail)
  change Code.wp _ _ _ _ (chgWorld w kind day id opt ans app v)
  generalize chgWorld w kind day id opt ans app v = W4 at *
  have p1 : (0 ≤ kind) = True := eq_true (by omega)
  have p2 : (kind < 7) = True := eq_true (by omega)
  clear hc1
  go_region_held3 (fun w_ => w_.cell? ⟨g, i.toNat * 5 + 1, none⟩ = some (.int .i64 (kind - 1)) ∧ w_.cell? ⟨w.heap.size, 0, none⟩ = some (.int .i64 kind) ∧ w_.cell? ⟨w.heap.size + 1 + 1, kind.toNat, none⟩ = some (.int .i64 (kind - 1))) (first | exact ⟨q1, q3, q2⟩ | go_keep) (fail)
  have B5 := below_drew1 B4
  have K1 := blk_drew k1
  have K2 := blk_drew k2
  generalize W4.drew = W5 at *
  clear q1 q2 q3 p1 p2 B4 k1 k2
  have hne1 : g ≠ w.heap.size := by omega
  have hne2 : g ≠ w.heap.size + 1 := by omega
  have c0 := (blk_cell K1 0).trans rfl
  have c1 := (blk_cell K1 1).trans rfl
  have c3 := (blk_cell K1 3).trans rfl
  have d0 := (blk_cell K2 0).trans rfl
  have d1 := (blk_cell K2 1).trans rfl
  have d2 := (blk_cell K2 2).trans rfl
  clear hu2 hu4
  by_cases h24 : kind = 2 ∨ kind = 4
  · rw [if_pos h24] at ha
    have hA := ha W5 B5
    obtain ⟨a1, a2⟩ := ad
    obtain rfl : a2 = 0 := he
    clear ha
    rcases h24 with rfl | rfl
    · rw [if_pos rfl] at hA
      go_wp2_with (go_at_call 58; refine hA.mono ?_; rintro e w2 ⟨rfl, hb⟩; have HR2 := Kd.R_below (Kd.R_below hr B5) hb; have x0 := pw_cell_below hb c0; have x3 := pw_cell_below hb c3; have el2 := elm HR2 i h0 h1 m hm; obtain ⟨e1, e2, e3, e4, e5, e6⟩ := el2; rw [hst] at e1)
      go_ret
      exact ⟨rfl, chg_fin hB hg0 (below_step B5 hb) HR2 i h0 h1 m hm 2 a1 opt _ rfl⟩
    · rw [if_neg (by decide)] at hA
      have hd : decide (opt < 0) = false := decide_eq_false (by omega)
      have hd2 : decide (4 ≤ opt) = false := decide_eq_false (by omega)
      go_wp2_with (go_at_call 58; refine hA.mono ?_; rintro e w2 ⟨rfl, hb⟩; have HR2 := Kd.R_below (Kd.R_below hr B5) hb; have x0 := pw_cell_below hb c0; have x3 := pw_cell_below hb c3; have el2 := elm HR2 i h0 h1 m hm; obtain ⟨e1, e2, e3, e4, e5, e6⟩ := el2; rw [hst] at e1)
      go_ret
      exact ⟨rfl, chg_fin hB hg0 (below_step B5 hb) HR2 i h0 h1 m hm 4 a1 opt _ rfl⟩
  · rw [if_neg h24] at ha
    subst ha
    have HR2 := Kd.R_below hr B5
    obtain ⟨e1, e2, e3, e4, e5, e6⟩ := elm HR2 i h0 h1 m hm
    rw [hst] at e1
    clear he
    rcases hk with rfl | rfl | ⟨rfl, h5, h6⟩ | rfl | ⟨rfl, h5, h6⟩
    · exact absurd (.inl rfl) h24
    · go_wp2
      go_ret
      exact ⟨rfl, chg_fin hB hg0 B5 HR2 i h0 h1 m hm 3 0 opt _ rfl⟩
    · exact absurd (.inr rfl) h24
    · go_wp2
      go_ret
      exact ⟨rfl, chg_fin hB hg0 B5 HR2 i h0 h1 m hm 5 0 opt _ rfl⟩
    · have hd : decide (opt < 0) = false := decide_eq_false (by omega)
      have hd2 : decide (4 ≤ opt) = false := decide_eq_false (by omega)
      go_wp2
      go_ret
      exact ⟨rfl, chg_fin hB hg0 B5 HR2 i h0 h1 m hm 6 0 opt _ rfl⟩
end Go.Proofs.Ytpfiecjacpbhkaa.D

/- docket.open through its pointer: the docket's block gets the longer list, or stays. -/
namespace Go.Proofs.Ytpfiecjacpbhkaa.D
open Go.RowKit Go.Proofs.YtpfiecjacpbhkaaW.PrintWords Go.Proofs.YtpfiecjacpbhkaaW.PrintLast Go.Proofs.YtpfiecjacpbhkaaW.PrintMore
set_option linter.unusedVariables false
set_option linter.unusedSimpArgs false

def openF (l : List S50) (id : Int) : List S50 × Int :=
  if id < 0 then (l, 1) else if 0 ≤ fnd id l 0 then (l, 12) else if (l.length : Int) ≥ 32 then (l, 2) else (l ++ [⟨id, 1, 0, 0, false⟩], 0)

set_option maxHeartbeats 8000000 in
set_option maxRecDepth 100000 in
theorem open_err (g : Nat) (d a p : Int) (hv : Value) (A : Option Addr) (c : Nat) (l : List S50) (id : Int) (w : World) (hlen : l.length ≤ c) (hl2 : l.length < 4611686018427387904)
    (hb : w.heap[g]? = some (.cells #[.int .i64 d, .int .i64 a, .int .i64 p, hv, .slice A l.length c] 30 (0, 0))) (hr : Kd.C k50 w A l.length l) (he : (openF l id).2 ≠ 0) :
    Calls Try.prog 36 #[.pointer (some ⟨g, 0, none⟩), .int .i64 id] w fun e w' => e = .returned (.int .i64 (openF l id).2) ∧ Below w.heap.size w w' := by
  have hu := Try.underlying30
  have hc4 : w.cell? ⟨g, 4, none⟩ = some (.slice A l.length c) := (blk_cell hb 4).trans rfl
  have HR := Aside0.mk hr
  clear hr
  unfold openF at he ⊢
  by_cases h1 : id < 0
  · rw [if_pos h1]
    have hd : decide (id < 0) = true := decide_eq_true h1
    go_enter Try.func36, Try.ntmps36
    go_wp2
    go_ret
    exact ⟨rfl, Below.refl _ _⟩
  · rw [if_neg h1] at he ⊢
    have hd : decide (id < 0) = false := decide_eq_false h1
    have hf := docket_find.calls A c l id (fnd id l 0) w HR.out hlen (by unfold docket_find.f; rw [if_pos hl2])
    generalize fnd id l 0 = q at *
    by_cases h2 : 0 ≤ q
    · rw [if_pos h2]
      have hd2 : decide (0 ≤ q) = true := decide_eq_true h2
      go_enter Try.func36, Try.ntmps36
      go_wp2_with (go_at_call 37; refine hf.mono ?_; rintro e w' ⟨rfl, hbl⟩)
      go_ret
      exact ⟨rfl, hbl⟩
    · rw [if_neg h2] at he ⊢
      have hd2 : decide (0 ≤ q) = false := decide_eq_false h2
      by_cases h3 : (l.length : Int) ≥ 32
      · rw [if_pos h3]
        have hd3 : decide ((32 : Int) ≤ (l.length : Int)) = true := decide_eq_true h3
        go_enter Try.func36, Try.ntmps36
        go_wp2_with (go_at_call 37; refine hf.mono ?_; rintro e w' ⟨rfl, hbl⟩; have hc5 := pw_cell_below hbl hc4)
        go_ret
        exact ⟨rfl, hbl⟩
      · rw [if_neg h3] at he
        exact absurd rfl he

set_option maxHeartbeats 8000000 in
set_option maxRecDepth 100000 in
theorem open_ok (g : Nat) (d a p : Int) (hv u : Value) (l : List S50) (id : Int) (w0 w : World) (hB : Below w0.heap.size w0 w) (hg : w0.heap.size ≤ g)
    (hb : w.heap[g]? = some (.cells #[.int .i64 d, .int .i64 a, .int .i64 p, hv, u] 30 (0, 0))) (ho : Kd.R k50 50 w w0.heap.size (fun _ => True) u l) (he : (openF l id).2 = 0) :
    Calls Try.prog 36 #[.pointer (some ⟨g, 0, none⟩), .int .i64 id] w fun e w' => ∃ u', e = .returned (.int .i64 0) ∧ w'.heap[g]? = some (.cells #[.int .i64 d, .int .i64 a, .int .i64 p, hv, u'] 30 (0, 0)) ∧
      Kd.R k50 50 w' w0.heap.size (fun _ => True) u' (openF l id).1 ∧ Below w0.heap.size w0 w' ∧ (∀ k, k < w.heap.size → k ≠ g → some k ≠ u.ownBlock → w'.heap[k]? = w.heap[k]?) := by
  have hu := Try.underlying30
  have hu2 := Try.underlying50
  have hu3 := Try.underlying28
  obtain ⟨A, c, rfl⟩ := Kd.R_slice ho
  have hC := (Kd.R_reads' ho).2
  have hc4 : w.cell? ⟨g, 4, none⟩ = some (.slice A l.length c) := (blk_cell hb 4).trans rfl
  unfold openF at he ⊢
  by_cases h1 : id < 0
  · rw [if_pos h1] at he; cases he
  rw [if_neg h1] at he ⊢
  by_cases h2 : 0 ≤ fnd id l 0
  · rw [if_pos h2] at he; cases he
  rw [if_neg h2] at he ⊢
  by_cases h3 : (l.length : Int) ≥ 32
  · rw [if_pos h3] at he; cases he
  rw [if_neg h3] at he ⊢
  clear he
  have hf := docket_find.calls A c l id (fnd id l 0) w hC.2 hC.1 (by unfold docket_find.f; rw [if_pos (by omega)])
  have hd : decide (id < 0) = false := decide_eq_false h1
  have hd2 : decide (0 ≤ fnd id l 0) = false := decide_eq_false h2
  have hd3 : decide ((32 : Int) ≤ (l.length : Int)) = false := decide_eq_false h3
  generalize fnd id l 0 = q at *
  have HO := Aside0.mk ho
  have HL : l.length < 32 := by omega
  have BK := Aside0.mk hb
  have HBB := Aside0.mk hB
  clear ho hC hb hB h1 h2 h3
  go_enter Try.func36, Try.ntmps36
  go_wp2_with (first | (go_at_call 37; refine hf.mono ?_; rintro e w1 ⟨rfl, hbl⟩; have hc5 := pw_cell_below hbl hc4; have HO1 := Aside0.mk (Kd.R_below HO.out hbl); have BK1 := Aside0.mk (blk_below BK.out hbl); have HB1 := Aside0.mk (below_then HBB.out HBB.out.size hbl)) | ((with_reducible refine gate_builtin (b := .append) (xs := #[.tmp 27, .tmp 30]) rfl ?_); at_builtin; refine Kd.R_append k50 (w0 := w0) w0.heap.size rfl (.tmp 27) (.tmp 30) 28 50 (.agg #[(.int .i64 0), (.int .i64 0), (.int .i64 0), (.int .i64 0), (.bool false)]) 40 rfl Try.underlying28 info50 rfl (by decide) (by omega) _ l (⟨id, 1, 0, 0, false⟩ : S50) [.int .i64 id, .int .i64 1, .int .i64 0, .int .i64 0, .bool false] (fun _ => True) (fun _ => False) rfl rfl ?aP (fun _ hk => hk.elim) ?aF ?aO ?aB ?aS ?aL ?_; (case aP => exact k50_mkM _ _ _ (⟨id, 1, 0, 0, false⟩ : S50)); (case aB => exact HB1.out); (case aF => exact (fun _ _ => trivial)); (case aO => exact HO1.out); (case aS => exact HB1.out.size); (case aL => omega); intro v2 w2 ho2 hb2 hgr hat; obtain ⟨A2, c2, rfl⟩ := Kd.R_slice ho2; have hne : some g ≠ (Value.slice A l.length c).ownBlock := Kd.R_ne HO1.out BK1.out (by decide); have BK2 := blk_grown BK1.out hgr hne; have hz4 := (blk_cell BK2 4).trans rfl; have hy4 := blk_frozen BK2 4))
  go_ret
  simp only [List.length_append, List.length_cons, List.length_nil, Nat.zero_add] at ho2
  refine ⟨_, rfl, blk_put BK2 4 _ rfl, Kd.R_mono (Kd.R_far (p := ⟨g, 4, none⟩) (Kd.R_types ho2 BK2 (by decide)) (fun _ hk => hk.2) _) (fun _ _ => trivial), hb2.setCell hg _, fun k hk hkg hku => ?_⟩
  rw [Below.heap_setCell w2 ⟨g, 4, none⟩ _ k hkg, hgr.block k (Nat.lt_of_lt_of_le hk hbl.size) hku]
  exact hbl.block k hk
end Go.Proofs.Ytpfiecjacpbhkaa.D

/- What the Go functions named below come to, each told as_ a Lean function ('.f'), with the proof ('.calls'): no condition beyond those that each theorem states. Written by a program of this session's over the translation. -/
namespace Go.Proofs.Ytpfiecjacpbhkaa.F
open Go.RowKit Go.Proofs.YtpfiecjacpbhkaaW.PrintWords Go.Proofs.YtpfiecjacpbhkaaW.PrintLast Go.Proofs.YtpfiecjacpbhkaaW.PrintMore
attribute [local go_sem] max2_int min2_int max_two min_two max_three min_three max_four min_four   -- for this text's walks alone
set_option linter.unusedVariables false
set_option linter.unusedSimpArgs false



def errW : Option Int → Value
  | none => .nilIface
  | some c => .iface 0 (.int .i64 c)
theorem errW_none : errW none = .nilIface := rfl
theorem errW_some (c : Int) : errW (some c) = .iface 0 (.int .i64 c) := rfl

theorem info3 : (Try.prog.info? 3).map (fun i => (i.zero, i.size, i.bytes)) = some (some (.int .i64 0), 1, 8) := by kernel_rfl
-- the values' own types
def rd_L1 (xs : List (List Int)) (i : Int) : (List Int) := xs.getD i.toNat ([] : List Int)
theorem at_L1 {w : World} {A : Option Addr} {n : Nat} {xs : List (List Int)} (h : Kd.C (Kd.slice 3 (Kd.int .i64)) w A n xs) (i : Int) (h0 : 0 ≤ i) (h1 : i < n) : ∃ ad A0 c0, A = some ad ∧ w.cell? (ad.add i.toNat) = some (.slice A0 (rd_L1 xs i).length c0) ∧ (rd_L1 xs i).length ≤ c0 ∧ (Kd.int .i64).C w A0 (rd_L1 xs i).length (rd_L1 xs i) := by
  obtain ⟨ad, c, e, _, hK, hc0⟩ := Kd.C_get h ([] : List Int) i h0 h1
  have hc : ∀ j u, c[j]? = some u → w.cell? (ad.add (i.toNat * 1 + j)) = some u := hc0
  obtain ⟨A0, c0, rfl, l0, g0⟩ := hK
  exact ⟨ad, A0, c0, e, by have hq := hc 0 _ rfl; rwa [Nat.mul_one, Nat.add_zero] at hq, l0, g0⟩

end Go.Proofs.Ytpfiecjacpbhkaa.F

/- What the Go functions named below come to, each told as_ a Lean function ('.f'), with the proof ('.calls'): no condition beyond those that each theorem states. Written by a program of this session's over the translation. -/
namespace Go.Proofs.Ytpfiecjacpbhkaa.E
open Go.RowKit Go.Proofs.YtpfiecjacpbhkaaW.PrintWords Go.Proofs.YtpfiecjacpbhkaaW.PrintLast Go.Proofs.YtpfiecjacpbhkaaW.PrintMore
attribute [local go_sem] max2_int min2_int max_two min_two max_three min_three max_four min_four   -- for this text's walks alone
set_option linter.unusedVariables false
set_option linter.unusedSimpArgs false



def errW : Option Int → Value
  | none => .nilIface
  | some c => .iface 0 (.int .i64 c)
theorem errW_none : errW none = .nilIface := rfl
theorem errW_some (c : Int) : errW (some c) = .iface 0 (.int .i64 c) := rfl

-- the values' own types
def rd_L1 (xs : List (List Int)) (i : Int) : (List Int) := xs.getD i.toNat ([] : List Int)
theorem at_L1 {w : World} {A : Option Addr} {n : Nat} {xs : List (List Int)} (h : Kd.C (Kd.slice 3 (Kd.int .i64)) w A n xs) (i : Int) (h0 : 0 ≤ i) (h1 : i < n) : ∃ ad A0 c0, A = some ad ∧ w.cell? (ad.add i.toNat) = some (.slice A0 (rd_L1 xs i).length c0) ∧ (rd_L1 xs i).length ≤ c0 ∧ (Kd.int .i64).C w A0 (rd_L1 xs i).length (rd_L1 xs i) := by
  obtain ⟨ad, c, e, _, hK, hc0⟩ := Kd.C_get h ([] : List Int) i h0 h1
  have hc : ∀ j u, c[j]? = some u → w.cell? (ad.add (i.toNat * 1 + j)) = some u := hc0
  obtain ⟨A0, c0, rfl, l0, g0⟩ := hK
  exact ⟨ad, A0, c0, e, by have hq := hc 0 _ rfl; rwa [Nat.mul_one, Nat.add_zero] at hq, l0, g0⟩

end Go.Proofs.Ytpfiecjacpbhkaa.E

/- The plain law of the calendar: business days counted, the closed days' list, the binary search; no program in sight. -/
namespace Go.Proofs.Ytpfiecjacpbhkaa.Hm
open Go.Proofs.YtpfiecjacpbhkaaW.PrintWords
set_option linter.unusedVariables false

/-! ### the binary search -/
def bsGo (p : Nat → Bool) : Nat → Nat → Nat → Nat
  | 0, lo, _ => lo
  | k + 1, lo, hi => if lo < hi then (if p ((lo + hi) / 2) then bsGo p k lo ((lo + hi) / 2) else bsGo p k ((lo + hi) / 2 + 1) hi) else lo
def bs (p : Nat → Bool) (n : Nat) : Nat := bsGo p n 0 n
theorem bsGo_done (p : Nat → Bool) (k lo hi : Nat) (h : ¬ lo < hi) : bsGo p k lo hi = lo := by
  cases k with
  | zero => rfl
  | succ k => simp [bsGo, h]
theorem bsGo_spec (p : Nat → Bool) (n : Nat) (hm : ∀ a b, a ≤ b → b < n → p a = true → p b = true) : ∀ (k lo hi : Nat), lo ≤ hi → hi ≤ n → hi - lo ≤ k → (∀ t, t < lo → p t = false) → (∀ t, hi ≤ t → t < n → p t = true) →
    bsGo p k lo hi ≤ n ∧ (∀ t, t < bsGo p k lo hi → p t = false) ∧ ∀ t, bsGo p k lo hi ≤ t → t < n → p t = true := by
  intro k
  induction k with
  | zero =>
    intro lo hi h1 h2 h3 h4 h5
    obtain rfl : lo = hi := by omega
    exact ⟨h2, h4, h5⟩
  | succ k ih =>
    intro lo hi h1 h2 h3 h4 h5
    rw [bsGo]
    by_cases hl : lo < hi
    · rw [if_pos hl]
      by_cases hp : p ((lo + hi) / 2) = true
      · rw [if_pos hp]
        exact ih lo _ (by omega) (by omega) (by omega) h4 (fun t ht htn => hm _ t ht htn hp)
      · rw [if_neg hp]
        refine ih _ hi (by omega) h2 (by omega) (fun t ht => ?_) h5
        cases hpt : p t with
        | false => rfl
        | true => exact absurd (hm t _ (by omega) (by omega) hpt) hp
    · rw [if_neg hl]
      obtain rfl : lo = hi := by omega
      exact ⟨h2, h4, h5⟩
theorem bs_spec (p : Nat → Bool) (n : Nat) (hm : ∀ a b, a ≤ b → b < n → p a = true → p b = true) :
    bs p n ≤ n ∧ (∀ t, t < bs p n → p t = false) ∧ ∀ t, bs p n ≤ t → t < n → p t = true :=
  bsGo_spec p n hm n 0 n (Nat.zero_le _) (Nat.le_refl _) (by omega) (fun t ht => absurd ht (Nat.not_lt_zero _)) (fun t h1 h2 => by omega)

/-! ### business days -/
def wk (d : Nat) : Nat := d / 7 * 5 + min (d % 7) 5
def bus (hs : List Int) (d : Int) : Bool := decide (0 ≤ d) && (decide (d ≤ 1048576) && (decide (d % 7 < 5) && !hs.contains d))
def cnt (hs : List Int) : Nat → Nat
  | 0 => 0
  | n + 1 => cnt hs n + if bus hs (n : Int) = true then 1 else 0
theorem cnt_mono (hs : List Int) {a b : Nat} (h : a ≤ b) : cnt hs a ≤ cnt hs b := by
  induction b with
  | zero => obtain rfl : a = 0 := by omega
            exact Nat.le_refl _
  | succ b ih =>
    by_cases hb : a = b + 1
    · rw [hb]; exact Nat.le_refl _
    · have := ih (by omega)
      rw [cnt]
      omega
theorem cnt_le (hs : List Int) (n : Nat) : cnt hs n ≤ n := by
  induction n with
  | zero => exact Nat.le_refl _
  | succ n ih => rw [cnt]; split <;> omega

/-- The closed days' list: ascending, each once, the holidays that fall on working days. -/
def IsClosed (hs c : List Int) : Prop := c.Pairwise (· < ·) ∧ ∀ h, h ∈ c ↔ (h ∈ hs ∧ 0 ≤ h ∧ h ≤ 1048576 ∧ h % 7 < 5)
def nb (c : List Int) (d : Int) : Nat := c.countP (fun x => decide (x < d))
theorem nb_le (c : List Int) (d : Int) : nb c d ≤ c.length := List.countP_le_length
theorem nb_zero (c : List Int) (d : Int) (h : ∀ x ∈ c, d ≤ x) : nb c d = 0 := by
  unfold nb
  rw [List.countP_eq_zero]
  intro x hx
  have := h x hx
  simp; omega
theorem nb_succ : ∀ (c : List Int) (d : Int), c.Pairwise (· < ·) → nb c (d + 1) = nb c d + if d ∈ c then 1 else 0
  | [], d, _ => by simp [nb]
  | x :: c, d, h => by
    obtain ⟨h1, h2⟩ := List.pairwise_cons.1 h
    have ih := nb_succ c d h2
    unfold nb at ih ⊢
    rw [List.countP_cons, List.countP_cons, ih]
    by_cases hx : x = d
    · subst hx
      have hn : x ∉ c := fun hm => by have := h1 x hm; omega
      simp [hn]
      omega
    · have e : (d ∈ x :: c) ↔ d ∈ c := by simp [Ne.symm hx]
      by_cases hd : d ∈ c
      · rw [if_pos hd, if_pos (e.2 hd)]
        by_cases hl : x < d
        · rw [if_pos (by simp; omega), if_pos (by simpa using hl)]; try omega
        · rw [if_neg (by simp; omega), if_neg (by simpa using hl)]
      · rw [if_neg hd, if_neg (fun z => hd (e.1 z))]
        by_cases hl : x < d
        · rw [if_pos (by simp; omega), if_pos (by simpa using hl)]; try omega
        · rw [if_neg (by simp; omega), if_neg (by simpa using hl)]
theorem cnt_closed {hs c : List Int} (hc : IsClosed hs c) : ∀ d : Nat, d ≤ 1048577 → cnt hs d + nb c d = wk d
  | 0, _ => by
    rw [nb_zero c ((0 : Nat) : Int) (fun x hx => by have := ((hc.2 x).1 hx).2.1; omega)]
    rfl
  | d + 1, hd => by
    have ih := cnt_closed hc d (by omega)
    have e := nb_succ c (d : Int) hc.1
    have hm := hc.2 (d : Int)
    rw [show ((d + 1 : Nat) : Int) = (d : Int) + 1 by omega, e, cnt]
    have hw : wk (d + 1) = wk d + if d % 7 < 5 then 1 else 0 := by
      unfold wk
      split <;> omega
    have hb : bus hs (d : Int) = true ↔ (d % 7 < 5 ∧ (d : Int) ∉ hs) := by
      unfold bus
      simp only [Bool.and_eq_true, decide_eq_true_eq, Bool.not_eq_true', List.contains_eq_mem, decide_eq_false_iff_not]
      constructor
      · rintro ⟨_, _, h3, h4⟩; exact ⟨by omega, h4⟩
      · rintro ⟨h3, h4⟩; exact ⟨by omega, by omega, by omega, h4⟩
    rw [hw]
    by_cases h5 : d % 7 < 5
    · by_cases hh : (d : Int) ∈ hs
      · rw [if_neg (fun z => (hb.1 z).2 hh), if_pos (hm.2 ⟨hh, by omega, by omega, by omega⟩), if_pos h5]; omega
      · rw [if_pos (hb.2 ⟨h5, hh⟩), if_neg (fun z => hh (hm.1 z).1), if_pos h5]; omega
    · rw [if_neg (fun z => h5 (hb.1 z).1), if_neg (fun z => h5 (by have := (hm.1 z).2.2.2; omega)), if_neg h5]; omega

/-! ### a search in the closed days' list -/
theorem rd_nat (l : List Int) (i : Nat) (h : i < l.length) : rd l (i : Int) = l[i] := by
  unfold rd
  rw [Int.toNat_natCast, List.getD_eq_getElem?_getD, List.getElem?_eq_getElem h]
  rfl
theorem bs_nb (c : List Int) (d : Int) (h : c.Pairwise (· < ·)) : bs (fun i => decide (d ≤ rd c i)) c.length = nb c d := by
  obtain ⟨h1, h2, h3⟩ := bs_spec (fun i => decide (d ≤ rd c i)) c.length (fun a b hab hb hp => by
    simp only [decide_eq_true_eq] at hp ⊢
    rw [rd_nat c b hb]
    rw [rd_nat c a (by omega)] at hp
    by_cases e : a = b
    · subst e; exact hp
    · have := List.pairwise_iff_getElem.1 h a b (by omega) hb (by omega)
      omega)
  generalize bs (fun i => decide (d ≤ rd c i)) c.length = r at h1 h2 h3
  have e := List.take_append_drop r c
  unfold nb
  have t : (c.take r).countP (fun x => decide (x < d)) = (c.take r).length := by
    rw [List.countP_eq_length]
    intro x hx
    obtain ⟨i, hi, rfl⟩ := List.mem_iff_getElem.1 hx
    have hi' : i < r := by rw [List.length_take] at hi; omega
    have := h2 i hi'
    rw [rd_nat c i (by omega)] at this
    rw [List.getElem_take]
    simp at this ⊢
    omega
  have dd : (c.drop r).countP (fun x => decide (x < d)) = 0 := by
    rw [List.countP_eq_zero]
    intro x hx
    obtain ⟨i, hi, rfl⟩ := List.mem_iff_getElem.1 hx
    rw [List.length_drop] at hi
    have := h3 (r + i) (by omega) (by omega)
    rw [rd_nat c (r + i) (by omega)] at this
    rw [List.getElem_drop]
    simp at this ⊢
    omega
  rw [← e, List.countP_append, t, dd, List.length_take]
  omega

/-! ### the answer of Add -/
/-- 'the first day that has more than m business days up to and with it' -/
def IsRes (hs : List Int) (m : Int) (x : Int × Int) : Prop :=
  (∃ d : Nat, d ≤ 1048576 ∧ x = ((d : Int), 0) ∧ m < (cnt hs (d + 1) : Int) ∧ (cnt hs d : Int) ≤ m) ∨ (x = (0, 1) ∧ (cnt hs 1048577 : Int) ≤ m)
theorem IsRes.unique {hs : List Int} {m : Int} {x y : Int × Int} (h : IsRes hs m x) (k : IsRes hs m y) : x = y := by
  rcases h with ⟨d, hd, rfl, h1, h2⟩ | ⟨rfl, h1⟩ <;> rcases k with ⟨e, he, rfl, k1, k2⟩ | ⟨rfl, k1⟩
  · have hde : ¬ d < e := fun hl => by have := cnt_mono hs (show d + 1 ≤ e by omega); omega
    have hed : ¬ e < d := fun hl => by have := cnt_mono hs (show e + 1 ≤ d by omega); omega
    obtain rfl : d = e := by omega
    rfl
  · have := cnt_mono hs (show d + 1 ≤ 1048577 by omega); omega
  · have := cnt_mono hs (show e + 1 ≤ 1048577 by omega); omega
  · rfl
/-- The binary search gives it. -/
theorem res_of_bs {hs : List Int} {m : Int} (hm : 0 ≤ m) {p : Nat → Bool} (hp : ∀ d, d < 1048577 → p d = decide (m < (cnt hs (d + 1) : Int))) :
    IsRes hs m (if (bs p 1048577 : Int) > 1048576 then (0, 1) else (((bs p 1048577 : Nat) : Int), 0)) := by
  obtain ⟨h1, h2, h3⟩ := bs_spec p 1048577 (fun a b hab hb hpa => by
    rw [hp a (by omega)] at hpa
    rw [hp b hb]
    have := cnt_mono hs (show a + 1 ≤ b + 1 by omega)
    simp at hpa ⊢
    omega)
  generalize bs p 1048577 = r at h1 h2 h3
  by_cases hr : (r : Int) > 1048576
  · rw [if_pos hr]
    have := h2 1048576 (by omega)
    rw [hp _ (by omega)] at this
    simp at this
    exact .inr ⟨rfl, this⟩
  · rw [if_neg hr]
    have h4 := h3 r (Nat.le_refl _) (by omega)
    rw [hp _ (by omega)] at h4
    simp at h4
    refine .inl ⟨r, by omega, rfl, h4, ?_⟩
    cases r with
    | zero => simpa [cnt] using hm
    | succ r =>
      have h5 := h2 r (by omega)
      rw [hp _ (by omega)] at h5
      simp at h5
      exact h5

/-! ### sorted and compacted -/
theorem keeps_sorted (zs : List Int) (h : zs.Pairwise (· ≤ ·)) (i j : Nat) (hij : i < j) (hj : j < zs.length) (hk : Lib.keeps zs.toArray j = true) : zs[i] < zs[j] := by
  have h1 : zs[i] ≤ zs[j - 1] := by
    by_cases e : i = j - 1
    · subst e; exact Int.le_refl _
    · exact List.pairwise_iff_getElem.1 h i (j - 1) (by omega) (by omega) (by omega)
  have h2 : zs[j - 1] ≤ zs[j] := List.pairwise_iff_getElem.1 h (j - 1) j (by omega) hj (by omega)
  have h3 : zs[j - 1] ≠ zs[j] := by
    intro e
    rw [Lib.keeps_neg (d := zs.toArray) (m := j) (by omega) (by rw [getElem!_pos _ j (by simpa using hj), getElem!_pos _ (j - 1) (by simp; omega)]; simpa using e.symm)] at hk
    cases hk
  omega
theorem compact_mono (zs : List Int) (h : zs.Pairwise (· ≤ ·)) : (Lib.compact zs).Pairwise (· < ·) := by
  unfold Lib.compact Lib.compactUpTo
  rw [List.pairwise_map]
  have hr : ((List.range zs.length).filter (Lib.keeps zs.toArray)).Pairwise (· < ·) := List.Pairwise.filter _ List.pairwise_lt_range
  refine List.Pairwise.imp_of_mem (fun {a b} ha hb hab => ?_) hr
  obtain ⟨ha1, ha2⟩ := List.mem_filter.1 ha
  obtain ⟨hb1, hb2⟩ := List.mem_filter.1 hb
  rw [List.mem_range] at ha1 hb1
  have := keeps_sorted zs h a b hab hb1 hb2
  rw [getElem!_pos _ a (by simpa using ha1), getElem!_pos _ b (by simpa using hb1)]
  simpa using this
theorem compact_mem (zs : List Int) (x : Int) : x ∈ Lib.compact zs ↔ x ∈ zs := by
  unfold Lib.compact Lib.compactUpTo
  constructor
  · intro hx
    obtain ⟨i, hi, rfl⟩ := List.mem_map.1 hx
    have hi1 := List.mem_range.1 (List.mem_filter.1 hi).1
    rw [getElem!_pos _ i (by simpa using hi1)]
    simp
  · intro hx
    obtain ⟨i, hi, rfl⟩ := List.mem_iff_getElem.1 hx
    rw [List.mem_map]
    -- the first place of the run
    have key : ∀ j, ∀ hj : j < zs.length, ∃ a, a ∈ (List.range zs.length).filter (Lib.keeps zs.toArray) ∧ zs.toArray[a]! = zs[j] := by
      intro j
      induction j with
      | zero =>
        intro hj
        exact ⟨0, List.mem_filter.2 ⟨List.mem_range.2 hj, Lib.keeps_lt_one _ 0 (by omega)⟩, by rw [getElem!_pos _ 0 (by simpa using hj)]; simp⟩
      | succ j ih =>
        intro hj
        by_cases e : zs[j] = zs[j + 1]
        · obtain ⟨a, ha, hv⟩ := ih (by omega)
          exact ⟨a, ha, by rw [hv, e]⟩
        · refine ⟨j + 1, List.mem_filter.2 ⟨List.mem_range.2 hj, Lib.keeps_pos ?_⟩, by rw [getElem!_pos _ (j + 1) (by simpa using hj)]; simp⟩
          rw [getElem!_pos _ (j + 1) (by simpa using hj), getElem!_pos _ (j + 1 - 1) (by simp; omega)]
          simpa using fun z => e z.symm
    obtain ⟨a, ha, hv⟩ := key i hi
    exact ⟨a, ha, hv⟩
theorem compact_len (zs : List Int) : (Lib.compact zs).length ≤ zs.length := by
  unfold Lib.compact Lib.compactUpTo
  rw [List.length_map]
  exact Nat.le_trans (List.length_filter_le _ _) (by rw [List.length_range]; exact Nat.le_refl _)
def closedOf (hs : List Int) : List Int := Lib.compact ((hs.filter fun h => decide (0 ≤ h) && (decide (h ≤ 1048576) && decide (h % 7 < 5))).mergeSort fun x y => decide (x ≤ y))
theorem closedOf_closed (hs : List Int) : IsClosed hs (closedOf hs) := by
  refine ⟨compact_mono _ ?_, fun h => ?_⟩
  · have := List.pairwise_mergeSort (le := fun x y : Int => decide (x ≤ y)) (fun a b c h1 h2 => by simp at h1 h2 ⊢; omega) (fun a b => by simp; omega) (hs.filter fun h => decide (0 ≤ h) && (decide (h ≤ 1048576) && decide (h % 7 < 5)))
    exact this.imp (fun h => by simpa using h)
  · unfold closedOf
    rw [compact_mem, List.mem_mergeSort, List.mem_filter]
    simp
theorem closedOf_length (hs : List Int) : (closedOf hs).length ≤ hs.length := by
  unfold closedOf
  refine Nat.le_trans (compact_len _) ?_
  rw [List.length_mergeSort]
  exact List.length_filter_le _ _
theorem cnt_low (hs : List Int) (d : Nat) (hd : d ≤ 1048577) : wk d ≤ cnt hs d + hs.length := by
  have h1 := cnt_closed (closedOf_closed hs) d hd
  have h2 := nb_le (closedOf hs) d
  have h3 := closedOf_length hs
  omega
end Go.Proofs.Ytpfiecjacpbhkaa.Hm

/- sort.Search and sort.SearchInts return exactly what the binary search 'bs' returns: no condition but that the closure (the slice) answers as_ told. -/
namespace Go.Proofs.Ytpfiecjacpbhkaa.Hw
open Go.RowKit Go.Proofs.YtpfiecjacpbhkaaW.PrintWords Go.Proofs.YtpfiecjacpbhkaaW.PrintLast Go.Proofs.YtpfiecjacpbhkaaW.PrintMore
set_option linter.unusedVariables false

open Hm (bs bsGo bsGo_done)

set_option maxHeartbeats 4000000 in
set_option maxRecDepth 100000 in
theorem search_any (g : Nat) (cb : Array Value) (n : Nat) (p : Nat → Bool) (w : World) (eg : ∀ args w, (callFunc g args).run Try.prog w = .ok (.enter g args) w) (hn : n < 4611686018427387904)
    (hf : ∀ (W : World) (i : Nat), Below w.heap.size w W → i < n → Calls Try.prog g (#[.int .i64 i] ++ cb) W fun e w' => e = .returned (.bool (p i)) ∧ Below W.heap.size W w') :
    Calls Try.prog 84 #[.int .i64 n, .func (.func g) #[] cb] w fun e w' => e = .returned (.int .i64 (bs p n : Nat)) ∧ Below w.heap.size w w' := by
  have HF := Aside0.mk hf
  clear hf
  obtain ⟨r, hr⟩ : ∃ r, bs p n = r := ⟨_, rfl⟩
  rw [hr]
  have R := Aside0.mk hr
  clear hr
  go_enter Try.func84, Try.ntmps84
  go_wp2
  go_loopg [5, 6] n (fun kx s5 s6 wr => ∃ (lo hi : Nat), s5 = .int .i64 lo ∧ s6 = .int .i64 hi ∧ lo ≤ hi ∧ hi ≤ n ∧ hi - lo ≤ kx ∧ Aside0 (bsGo p kx lo hi = r) ∧ Aside0 (Below w.heap.size w wr))
  case atStart => exact ⟨0, n, rfl, rfl, Nat.zero_le _, Nat.le_refl _, by omega, R, ⟨Below.refl _ _⟩⟩
  case round =>
    obtain ⟨lo, hi, rfl, rfl, hlh, hin, hg, I, HB⟩ := hrel
    by_cases hlt : lo < hi
    · obtain ⟨k1, rfl⟩ : ∃ m, gk = m + 1 := ⟨gk - 1, by omega⟩
      have hc := HF.out wr ((lo + hi) / 2) HB.out (by omega)
      rw [show (((lo + hi) / 2 : Nat) : Int) = ((lo : Int) + (hi : Int)) / 2 by omega] at hc
      have I2 := I.out
      rw [bsGo, if_pos hlt] at I2
      clear I
      cases hp : p ((lo + hi) / 2) <;> rw [hp] at hc I2
      · have I3 := Aside0.mk (show bsGo p k1 ((lo + hi) / 2 + 1) hi = r by simpa using I2)
        clear I2 hp
        go_wp2_with (go_at_fn g; refine hc.mono ?_; rintro e w' ⟨rfl, hb⟩)
        have HB2 := Aside0.mk (below_then HB.out (Below.size HB.out) hb)
        clear hb
        go_roundg k1
        case measure => omega
        case rel => exact ⟨(lo + hi) / 2 + 1, hi, by rw [show ((lo : Int) + (hi : Int)) / 2 + 1 = (((lo + hi) / 2 + 1 : Nat) : Int) by omega], rfl, by omega, hin, by omega, I3, HB2⟩
      · have I3 := Aside0.mk (show bsGo p k1 lo ((lo + hi) / 2) = r by simpa using I2)
        clear I2 hp
        go_wp2_with (go_at_fn g; refine hc.mono ?_; rintro e w' ⟨rfl, hb⟩)
        have HB2 := Aside0.mk (below_then HB.out (Below.size HB.out) hb)
        clear hb
        go_roundg k1
        case measure => omega
        case rel => exact ⟨lo, (lo + hi) / 2, rfl, by rw [show ((lo : Int) + (hi : Int)) / 2 = (((lo + hi) / 2 : Nat) : Int) by omega], by omega, by omega, by omega, I3, HB2⟩
    · obtain rfl : hi = lo := by omega
      have I2 := I.out
      rw [bsGo_done p gk hi hi (by omega)] at I2
      subst I2
      clear I R
      go_wp2
      go_ret
      exact ⟨rfl, HB.out⟩

/-- The closure of sort.SearchInts: 'a[i] >= x', a and x in their boxes. -/
theorem ints_closure (ba bx : Nat) (A : Option Addr) (c : Nat) (l : List Int) (x : Int) (i : Nat) (W : World) (hi : i < l.length) (ha : W.cell? ⟨ba, 0, none⟩ = some (.slice A l.length c)) (hx : W.cell? ⟨bx, 0, none⟩ = some (.int .i64 x)) (hr : Kd.C (Kd.int .i64) W A l.length l) :
    Calls Try.prog 95 (#[.int .i64 i] ++ #[.pointer (some ⟨ba, 0, none⟩), .pointer (some ⟨bx, 0, none⟩)]) W fun e w' => e = .returned (.bool (decide (x ≤ rd l i))) ∧ Below W.heap.size W w' := by
  obtain ⟨ad, rfl, hc⟩ := Kd.at_int hr i (by omega) (by omega)
  rw [Int.toNat_natCast] at hc
  have h0 : (0 : Int) ≤ (i : Int) := by omega
  have h1 : (i : Int) < (l.length : Int) := by omega
  generalize rd l i = y at hc ⊢
  clear hr
  show Calls Try.prog 95 #[.int .i64 i, .pointer (some ⟨ba, 0, none⟩), .pointer (some ⟨bx, 0, none⟩)] W _
  go_enter Try.func95, Try.ntmps95
  go_wp2
  go_quiet (fail)
  go_wp2
  go_ret
  exact ⟨rfl, pw_below_drewN (Below.refl _ _) _⟩

def sort_SearchInts.f (l0 : List Int) (a1 : Int) : Option Int := if l0.length < 4611686018427387904 then some (bs (fun i => decide (a1 ≤ rd l0 i)) l0.length : Nat) else none
set_option maxHeartbeats 4000000 in
set_option maxRecDepth 100000 in
theorem sort_SearchInts.calls (A0 : Option Addr) (c0 : Nat) (l0 : List Int) (a1 : Int) (r : Int) (w : World) (hr0 : Kd.C (Kd.int .i64) w A0 l0.length l0) (hc0 : l0.length ≤ c0) (h : sort_SearchInts.f l0 a1 = some r) :
    Calls Try.prog 86 #[.slice A0 l0.length c0, .int .i64 a1] w fun e w' => e = .returned (.int .i64 r) ∧ Below w.heap.size w w' := by
  unfold sort_SearchInts.f at h
  have hlen : l0.length < 4611686018427387904 := by
    by_cases hl : l0.length < 4611686018427387904
    · exact hl
    · rw [if_neg hl] at h; cases h
  rw [if_pos hlen] at h
  obtain rfl := Option.some.inj h
  clear h
  obtain ⟨W0, hW0⟩ : ∃ W0, W0 = (w.alloc (.cells #[.slice A0 l0.length c0] 25)).alloc (.cells #[.int .i64 a1] 3) := ⟨_, rfl⟩
  have hsize : W0.heap.size = w.heap.size + 1 + 1 := by rw [hW0]; simp
  have hB0 : Below w.heap.size w W0 := by rw [hW0]; exact ((Below.refl _ w).alloc (Nat.le_refl _) _).alloc (by simp) _
  have ca : W0.cell? ⟨w.heap.size, 0, none⟩ = some (.slice A0 l0.length c0) := by rw [hW0]; simp [go_sem, World.cell?_alloc_past]
  have cx : W0.cell? ⟨w.heap.size + 1, 0, none⟩ = some (.int .i64 a1) := by rw [hW0]; simp [go_sem]
  have hr := Kd.C_below hr0 hB0
  have eg : ∀ args w, (callFunc 95 args).run Try.prog w = .ok (.enter 95 args) w := enters_of Try.func95 (by kernel_rfl) rfl
  have hS := search_any 95 #[.pointer (some ⟨w.heap.size, 0, none⟩), .pointer (some ⟨w.heap.size + 1, 0, none⟩)] l0.length (fun i => decide (a1 ≤ rd l0 i)) W0 eg hlen
    (fun W i hb hi => ints_closure w.heap.size (w.heap.size + 1) A0 c0 l0 a1 i W hi (pw_cell_below hb ca) (pw_cell_below hb cx) (Kd.C_below hr hb))
  clear hr hr0 ca cx
  generalize bs (fun i => decide (a1 ≤ rd l0 i)) l0.length = r at hS ⊢
  go_enter Try.func86, Try.ntmps86
  go_wp2_with (go_at_call 84; rw [← hW0]; refine hS.mono ?_; rintro e w' ⟨rfl, hb⟩)
  go_ret
  exact ⟨rfl, below_then hB0 (by omega) hb⟩
end Go.Proofs.Ytpfiecjacpbhkaa.Hw

/- What the Go functions named below come to, each told as_ a Lean function ('.f'), with the proof ('.calls'): no condition beyond those that each theorem states. Written by a program of this session's over the translation. -/
namespace Go.Proofs.Ytpfiecjacpbhkaa.E
open Go.RowKit Go.Proofs.YtpfiecjacpbhkaaW.PrintWords Go.Proofs.YtpfiecjacpbhkaaW.PrintLast Go.Proofs.YtpfiecjacpbhkaaW.PrintMore
attribute [local go_sem] max2_int min2_int max_two min_two max_three min_three max_four min_four   -- for this text's walks alone
set_option linter.unusedVariables false
set_option linter.unusedSimpArgs false

/-! ### calendar_closed_before: function 68 -/
def calendar_closed_before.f (l0 : List Int) (a1 : Int) : Option (Int) := (Hw.sort_SearchInts.f l0 a1).bind fun t101 => (some (wrap64 ((wrap64 ((wrap64 ((wrap64 (Int.tdiv a1 7)) * 5)) + (mn (Int.tmod a1 7) 5))) - t101)))
set_option maxHeartbeats 8000000 in
set_option maxRecDepth 100000 in
theorem calendar_closed_before.calls (A0 : Option Addr) (c0 : Nat) (l0 : List Int) (a1 : Int) (r : Int) (w : World) (hr0 : Kd.C (Kd.int .i64) w A0 l0.length l0) (hc0 : l0.length ≤ c0) (h : calendar_closed_before.f l0 a1 = some r) :
    Calls Try.prog 68 #[.slice A0 l0.length c0, .int .i64 a1] w fun e w' => e = .returned (.int .i64 r) ∧ Below w.heap.size w w' := by
  have HR0 := Aside0.mk hr0
  have HC0 := Aside0.mk hc0
  clear hr0 hc0
  have HB := Aside0.mk (Below.refl w.heap.size w)
  have H : ((Hw.sort_SearchInts.f l0 a1).bind fun t101 => (some (wrap64 ((wrap64 ((wrap64 ((wrap64 (Int.tdiv a1 7)) * 5)) + (mn (Int.tmod a1 7) 5))) - t101)))) = some r := h
  clear h
  obtain ⟨ji3, hji3⟩ : ∃ j_ : Int, (mn (Int.tmod a1 7) 5) = j_ := ⟨_, rfl⟩
  replace H : ((Hw.sort_SearchInts.f l0 a1).bind fun t101 => (some (wrap64 ((wrap64 ((wrap64 ((wrap64 (Int.tdiv a1 7)) * 5)) + (ji3))) - t101)))) = some r := by first | (rw [hji3] at H; exact H) | (simp only [hji3] at H ⊢; exact H)
  (try (have hji3h : ji3 ≤ 5 := by (rw [← hji3]; unfold mn; (repeat' split) <;> omega)))
  (try (have hji3g : ji3 ≤ 64 := by omega))
  have hji3_ : (if 5 < (Int.tmod a1 7) then 5 else (Int.tmod a1 7)) = ji3 := hji3
  replace H := Option.bind_eq_some_iff.mp H
  obtain ⟨t101, A40, H⟩ := H
  replace H : (some (wrap64 ((wrap64 ((wrap64 ((wrap64 (Int.tdiv a1 7)) * 5)) + (ji3))) - t101))) = some r := H
  have A4 := Aside0.mk A40
  clear A40
  obtain rfl := Option.some.inj H
  go_enter Try.func68, Try.ntmps68
  go_wp2_with (first | ((with_reducible refine gate_callee (f := 86) rfl ?_); refine goesL_ (some 14) rfl rfl Try.func86 (by kernel_rfl) rfl #[.slice A0 l0.length c0, .int .i64 a1] rfl (by (try simp only [List.map_toArray, List.map_cons, List.map_nil]); first | done | rfl | (simp only [List.length_drop, List.length_take]; rfl)) ?_; (with_reducible refine (Hw.sort_SearchInts.calls _ _ l0 a1 t101 _ ?side1 ?side2 A4.out).mono ?_); (case side1 => repeat (first | exact HR0.out | (with_reducible refine Kd.C_alloc ?_ _) | (with_reducible refine Kd.C_drewN ?_ _) | (with_reducible refine Kd.C_drew ?_))); (case side2 => exact HC0.out); rintro e w5 ⟨rfl, hb⟩; refine ⟨_, rfl, ?_⟩; have n0_ := Aside0.mk (below_step (by repeat (first | (with_reducible first | exact HB.out | apply below_alloc | apply pw_below_drewN | apply below_drew1) | exact HB.out)) hb); clear HB; have HB := n0_; clear n0_; (try clear hb); (try clear hb2); (try clear hk); (try clear hi)))
  go_ret
  exact ⟨by first | rfl | (simp [errW_none, errW_some] <;> rfl) | (simp only [← hji3]; first | rfl | (simp [errW_none, errW_some] <;> rfl)) | (simp [*, errW_none, errW_some] <;> rfl), by repeat (first | (with_reducible first | exact HB.out | apply below_alloc | apply pw_below_drewN | apply below_drew1) | exact HB.out)⟩

end Go.Proofs.Ytpfiecjacpbhkaa.E

/- calendar's nth returns exactly the first day that the binary search 'bs' finds, or 0 and ErrRange: no condition. -/
namespace Go.Proofs.Ytpfiecjacpbhkaa.Hw
open Go.RowKit Go.Proofs.YtpfiecjacpbhkaaW.PrintWords Go.Proofs.YtpfiecjacpbhkaaW.PrintLast Go.Proofs.YtpfiecjacpbhkaaW.PrintMore
set_option linter.unusedVariables false

open Hm (bs)
/-- What the closure of nth says of a day. -/
def nthP (l : List Int) (n : Int) (d : Nat) : Bool := decide (n < (E.calendar_closed_before.f l ((d : Int) + 1)).getD 0)
def calendar_closed_nth.f (l0 : List Int) (a1 : Int) : Option (Int × Int) :=
  if l0.length < 4611686018427387904 then (if (bs (nthP l0 a1) 1048577 : Int) > 1048576 then some (0, 1) else some (((bs (nthP l0 a1) 1048577 : Nat) : Int), 0)) else none

theorem before_some (l : List Int) (x : Int) (h : l.length < 4611686018427387904) : E.calendar_closed_before.f l x = some ((E.calendar_closed_before.f l x).getD 0) := by
  simp [E.calendar_closed_before.f, sort_SearchInts.f, h]

set_option maxHeartbeats 4000000 in
set_option maxRecDepth 100000 in
theorem nth_closure (bc bn : Nat) (A : Option Addr) (c : Nat) (l : List Int) (x : Int) (i : Nat) (W : World) (hi : i < 1048577) (hlen : l.length < 4611686018427387904) (hlc : l.length ≤ c) (ha : W.cell? ⟨bc, 0, none⟩ = some (.slice A l.length c)) (hx : W.cell? ⟨bn, 0, none⟩ = some (.int .i64 x)) (hr : Kd.C (Kd.int .i64) W A l.length l) :
    Calls Try.prog 85 (#[.int .i64 i] ++ #[.pointer (some ⟨bc, 0, none⟩), .pointer (some ⟨bn, 0, none⟩)]) W fun e w' => e = .returned (.bool (nthP l x i)) ∧ Below W.heap.size W w' := by
  have hB := before_some l ((i : Int) + 1) hlen
  unfold nthP
  generalize (E.calendar_closed_before.f l ((i : Int) + 1)).getD 0 = y at hB ⊢
  have HR := Aside0.mk hr
  have HBF := Aside0.mk hB
  have HL := Aside0.mk hlc
  clear hr hB hlc
  have h0 : (0 : Int) ≤ (i : Int) := by omega
  have h1 : (i : Int) ≤ 1048576 := by omega
  have hwr : IntKind.i64.wrap ((i : Int) + 1) = (i : Int) + 1 := by rw [IntKind.wrap_i64]; omega
  show Calls Try.prog 85 #[.int .i64 i, .pointer (some ⟨bc, 0, none⟩), .pointer (some ⟨bn, 0, none⟩)] W _
  go_enter Try.func85, Try.ntmps85
  go_wp2
  go_region_held3 (fun w' => w'.cell? ⟨bc, 0, none⟩ = some (.slice A l.length c) ∧ w'.cell? ⟨bn, 0, none⟩ = some (.int .i64 x)) (first | exact ⟨pw_cell_below hb ha, pw_cell_below hb hx⟩ | (refine ⟨?_, ?_⟩ <;> (first | exact pw_cell_below hb ha | exact pw_cell_below hb hx | go_keep)) | go_keep)
    (first | (go_at_call 68; refine (E.calendar_closed_before.calls A c l _ y _ ?_ HL.out ?_).mono ?_; (exact Kd.C_drewN HR.out _); (exact HBF.out); rintro e w' ⟨rfl, hb⟩))
  go_wp2
  go_ret
  exact ⟨rfl, below_then (below_drew (Below.refl _ _)) (Nat.le_refl _) hb⟩

set_option maxHeartbeats 4000000 in
set_option maxRecDepth 100000 in
theorem calendar_closed_nth.calls (A0 : Option Addr) (c0 : Nat) (l0 : List Int) (a1 : Int) (r1 : Int) (r2 : Int) (w : World) (hr0 : Kd.C (Kd.int .i64) w A0 l0.length l0) (hc0 : l0.length ≤ c0) (h : calendar_closed_nth.f l0 a1 = some (r1, r2)) :
    Calls Try.prog 67 #[.slice A0 l0.length c0, .int .i64 a1] w fun e w' => e = .returned (.tuple #[.int .i64 r1, .int .i64 r2]) ∧ Below w.heap.size w w' := by
  unfold calendar_closed_nth.f at h
  have hlen : l0.length < 4611686018427387904 := by
    by_cases hl : l0.length < 4611686018427387904
    · exact hl
    · rw [if_neg hl] at h; cases h
  rw [if_pos hlen] at h
  obtain ⟨W0, hW0⟩ : ∃ W0, W0 = (w.alloc (.cells #[.slice A0 l0.length c0] 113)).alloc (.cells #[.int .i64 a1] 3) := ⟨_, rfl⟩
  have hsize : W0.heap.size = w.heap.size + 1 + 1 := by rw [hW0]; simp
  have hB0 : Below w.heap.size w W0 := by rw [hW0]; exact ((Below.refl _ w).alloc (Nat.le_refl _) _).alloc (by simp) _
  have ca : W0.cell? ⟨w.heap.size, 0, none⟩ = some (.slice A0 l0.length c0) := by rw [hW0]; simp [go_sem, World.cell?_alloc_past]
  have cx : W0.cell? ⟨w.heap.size + 1, 0, none⟩ = some (.int .i64 a1) := by rw [hW0]; simp [go_sem]
  have hr := Kd.C_below hr0 hB0
  have eg : ∀ args w, (callFunc 85 args).run Try.prog w = .ok (.enter 85 args) w := enters_of Try.func85 (by kernel_rfl) rfl
  have hS := search_any 85 #[.pointer (some ⟨w.heap.size, 0, none⟩), .pointer (some ⟨w.heap.size + 1, 0, none⟩)] 1048577 (nthP l0 a1) W0 eg (by decide)
    (fun W i hb hi => nth_closure w.heap.size (w.heap.size + 1) A0 c0 l0 a1 i W hi hlen hc0 (pw_cell_below hb ca) (pw_cell_below hb cx) (Kd.C_below hr hb))
  clear hr hr0 ca cx
  generalize bs (nthP l0 a1) 1048577 = r at hS h
  have HS := Aside0.mk hS
  clear hS
  by_cases hgt : (r : Int) > 1048576
  · rw [if_pos hgt] at h
    obtain ⟨rfl, rfl⟩ := Prod.mk.inj (Option.some.inj h)
    clear h
    have hd : decide ((1048576 : Int) < (r : Int)) = true := decide_eq_true hgt
    go_enter Try.func67, Try.ntmps67
    go_wp2_with (go_at_call 84; rw [← hW0]; refine HS.out.mono ?_; rintro e w' ⟨rfl, hb⟩)
    go_ret2
    exact ⟨rfl, below_then hB0 (by omega) hb⟩
  · rw [if_neg hgt] at h
    obtain ⟨rfl, rfl⟩ := Prod.mk.inj (Option.some.inj h)
    clear h
    have hd : decide ((1048576 : Int) < (r : Int)) = false := decide_eq_false hgt
    go_enter Try.func67, Try.ntmps67
    go_wp2_with (go_at_call 84; rw [← hW0]; refine HS.out.mono ?_; rintro e w' ⟨rfl, hb⟩)
    go_ret2
    exact ⟨rfl, below_then hB0 (by omega) hb⟩

end Go.Proofs.Ytpfiecjacpbhkaa.Hw

/- slices.Sort and slices.Compact at the calendar's list are the library's own texts: laid in plain words by the shelf's tool. -/
namespace Go.Proofs
open Go.Shelf
def Try.laysSort_ren : Go.Shelf.Ren := ⟨fun | 5 => 82 | 8 => 63 | 7 => 94 | 19 => 79 | 20 => 80 | 10 => 97 | 11 => 98 | 12 => 99 | 13 => 100 | 14 => 101 | 15 => 102 | 16 => 103 | 17 => 104 | 18 => 105 | 30 => 106 | 31 => 90 | 32 => 91 | 33 => 107 | 34 => 108 | 35 => 64 | 40 => 109 | n => n, fun | 23 => 113 | 25 => 3 | 3 => 3 | 32 => 112 | 22 => 25 | 0 => 0 | 44 => 125 | 46 => 127 | 4 => 4 | 36 => 119 | 35 => 118 | 41 => 62 | 5 => 5 | 9 => 9 | 53 => 133 | 57 => 137 | 63 => 140 | 64 => 108 | n => n, fun | n => n⟩
theorem Try.laysSort : Go.Proofs.SlLaysM.n5 Try.prog Try.laysSort_ren := {
  mixed := by kernel_rfl
  f5 := ⟨Try.f82.name, by decide, Try.func82.trans (congrArg some (by kernel_rfl))⟩
  f7 := ⟨Try.f94.name, by decide, Try.func94.trans (congrArg some (by kernel_rfl))⟩
  f8 := Try.func63.trans (congrArg some (by kernel_rfl))
  f10 := ⟨Try.f97.name, by decide, Try.func97.trans (congrArg some (by kernel_rfl))⟩
  f11 := ⟨Try.f98.name, by decide, Try.func98.trans (congrArg some (by kernel_rfl))⟩
  f12 := ⟨Try.f99.name, by decide, Try.func99.trans (congrArg some (by kernel_rfl))⟩
  f13 := ⟨Try.f100.name, by decide, Try.func100.trans (congrArg some (by kernel_rfl))⟩
  f14 := ⟨Try.f101.name, by decide, Try.func101.trans (congrArg some (by kernel_rfl))⟩
  f15 := ⟨Try.f102.name, by decide, Try.func102.trans (congrArg some (by kernel_rfl))⟩
  f16 := ⟨Try.f103.name, by decide, Try.func103.trans (congrArg some (by kernel_rfl))⟩
  f17 := ⟨Try.f104.name, by decide, Try.func104.trans (congrArg some (by kernel_rfl))⟩
  f18 := ⟨Try.f105.name, by decide, Try.func105.trans (congrArg some (by kernel_rfl))⟩
  f19 := Try.func79.trans (congrArg some (by kernel_rfl))
  f20 := Try.func80.trans (congrArg some (by kernel_rfl))
  f30 := ⟨Try.f106.name, by decide, Try.func106.trans (congrArg some (by kernel_rfl))⟩
  f31 := Try.func90.trans (congrArg some (by kernel_rfl))
  f32 := Try.func91.trans (congrArg some (by kernel_rfl))
  f33 := ⟨Try.f107.name, by decide, Try.func107.trans (congrArg some (by kernel_rfl))⟩
  f34 := ⟨Try.f108.name, by decide, Try.func108.trans (congrArg some (by kernel_rfl))⟩
  f35 := ⟨Try.f64.name, by decide, Try.func64.trans (congrArg some (by kernel_rfl))⟩
  f40 := ⟨Try.f109.name, by decide, Try.func109.trans (congrArg some (by kernel_rfl))⟩
  t0 := Try.underlying0
  a0 := Try.isAgg0
  z0 := Try.sizeOf0
  v0 := Try.zeroValue0
  t3 := Try.underlying3
  a3 := Try.isAgg3
  z3 := Try.sizeOf3
  v3 := Try.zeroValue3
  t4 := Try.underlying4
  a4 := Try.isAgg4
  z4 := Try.sizeOf4
  v4 := Try.zeroValue4
  t5 := Try.underlying5
  a5 := Try.isAgg5
  z5 := Try.sizeOf5
  v5 := Try.zeroValue5
  t9 := Try.underlying9
  a9 := Try.isAgg9
  z9 := Try.sizeOf9
  v9 := Try.zeroValue9
  t22 := Try.underlying25
  a22 := Try.isAgg25
  z22 := Try.sizeOf25
  v22 := Try.zeroValue25
  t23 := Try.underlying113
  a23 := Try.isAgg113
  z23 := Try.sizeOf113
  v23 := Try.zeroValue113
  t25 := Try.underlying3
  a25 := Try.isAgg3
  z25 := Try.sizeOf3
  v25 := Try.zeroValue3
  t32 := Try.underlying112
  a32 := Try.isAgg112
  z32 := Try.sizeOf112
  v32 := Try.zeroValue112
  t35 := Try.underlying118
  a35 := Try.isAgg118
  z35 := Try.sizeOf118
  v35 := Try.zeroValue118
  t36 := Try.underlying119
  a36 := Try.isAgg119
  z36 := Try.sizeOf119
  v36 := Try.zeroValue119
  t41 := Try.underlying62
  a41 := Try.isAgg62
  z41 := Try.sizeOf62
  v41 := Try.zeroValue62
  t44 := Try.underlying125
  a44 := Try.isAgg125
  z44 := Try.sizeOf125
  v44 := Try.zeroValue125
  t46 := Try.underlying127
  a46 := Try.isAgg127
  z46 := Try.sizeOf127
  v46 := Try.zeroValue127
  t53 := Try.underlying133
  a53 := Try.isAgg133
  z53 := Try.sizeOf133
  v53 := Try.zeroValue133
  t57 := Try.underlying137
  a57 := Try.isAgg137
  z57 := Try.sizeOf137
  v57 := Try.zeroValue137
  t63 := Try.underlying140
  a63 := Try.isAgg140
  z63 := Try.sizeOf140
  v63 := Try.zeroValue140
  t64 := Try.underlying108
  a64 := Try.isAgg108
  z64 := Try.sizeOf108
  v64 := Try.zeroValue108 }
def Try.laysCompact_ren : Go.Shelf.Ren := ⟨fun | 43 => 83 | n => n, fun | 22 => 113 | 23 => 3 | 3 => 3 | 4 => 4 | 0 => 0 | n => n, fun | n => n⟩
theorem Try.laysCompact : Go.Proofs.SlLaysN.n43 Try.prog Try.laysCompact_ren := {
  mixed := by kernel_rfl
  f43 := ⟨Try.f83.name, by decide, Try.func83.trans (congrArg some (by kernel_rfl))⟩
  t0 := Try.underlying0
  a0 := Try.isAgg0
  z0 := Try.sizeOf0
  v0 := Try.zeroValue0
  t3 := Try.underlying3
  a3 := Try.isAgg3
  z3 := Try.sizeOf3
  v3 := Try.zeroValue3
  t4 := Try.underlying4
  a4 := Try.isAgg4
  z4 := Try.sizeOf4
  v4 := Try.zeroValue4
  t22 := Try.underlying113
  a22 := Try.isAgg113
  z22 := Try.sizeOf113
  v22 := Try.zeroValue113
  t23 := Try.underlying3
  a23 := Try.isAgg3
  z23 := Try.sizeOf3
  v23 := Try.zeroValue3
  i23 := by kernel_rfl }
end Go.Proofs

/- slices.Sort and slices.Compact at the calendar's list of closed days, by the library's contracts: the ascending list; each run once. -/
namespace Go.Proofs.Ytpfiecjacpbhkaa.Hw
open Go.RowKit Go.Proofs.YtpfiecjacpbhkaaW.PrintWords Go.Proofs.YtpfiecjacpbhkaaW.PrintLast Go.Proofs.YtpfiecjacpbhkaaW.PrintMore Go.Shelf Go.Sort
set_option linter.unusedVariables false

def slices_Sort_closed.f (l0 : List Int) : Option (List Int) := if l0.length < 4611686018427387904 then some (l0.mergeSort fun x y => decide (x ≤ y)) else none
theorem slices_Sort_closed.calls (P0_ : Nat → Prop) (u9000_ : Value) (l0 : List Int) (r : List Int) (w0 w : World) (hB : Below w0.heap.size w0 w) (ho0 : Kd.R (Kd.int .i64) 3 w w0.heap.size P0_ u9000_ l0) (h : slices_Sort_closed.f l0 = some r) :
    Calls Try.prog 82 #[u9000_] w fun e w' => e = .returned (.tuple #[]) ∧ Kd.R (Kd.int .i64) 3 w' w0.heap.size (fun k_ => (P0_ k_ ∨ w.heap.size ≤ k_)) u9000_ r ∧ Below w0.heap.size w0 w' ∧ Kept w w' (fun k_ => P0_ k_) := by
  unfold slices_Sort_closed.f at h
  have hlen : l0.length < 4611686018427387904 := by
    by_cases hl : l0.length < 4611686018427387904
    · exact hl
    · rw [if_neg hl] at h; cases h
  rw [if_pos hlen] at h
  obtain rfl := Option.some.inj h
  clear h
  have ho := Kd.own_of_R ho0
  by_cases h0 : l0 = []
  · subst h0
    obtain ⟨A, c, rfl⟩ : ∃ A c, u9000_ = .slice A 0 c := by
      rcases ho.2 with ⟨rfl, _⟩ | ⟨g, cap, cur, rfl, _⟩
      · exact ⟨none, 0, rfl⟩
      · exact ⟨_, cap, rfl⟩
    have hc := AnyM.slices_Sort_int_none Try.laysSort A c w
    change Calls Try.prog 82 _ _ _ at hc
    refine hc.mono ?_
    rintro e w' ⟨rfl, hw⟩
    subst hw
    exact ⟨rfl, by rw [List.mergeSort_nil]; exact Kd.R_mono ho0 (fun k hk => .inl hk), hB, Kept.refl _ _⟩
  · have hpos : 0 < l0.length := List.length_pos_iff.2 h0
    rcases ho.2 with ⟨rfl, hz⟩ | ⟨g, cap, cur, rfl, hbase, hb, h1, h2, h3, h4⟩
    · omega
    have h4' : cur.toList.take l0.length = l0.map (Value.int .i64) := by simpa [encs] using h4
    have hc := AnyM.slices_Sort_int Try.laysSort g 0 cap l0 w (holds_of_blockI hb h4') (Array.getElem?_eq_some_iff.1 hb).1 hlen
    change Calls Try.prog 82 _ _ _ at hc
    refine hc.mono ?_
    rintro e w' ⟨rfl, nn, os, rfl⟩
    have hown := ownsRow_sortedI (n := nn) (os := os) (ts := l0.mergeSort fun x y => decide (x ≤ y)) (by simp) hbase hb h1 h2 h3
    have hg := grownBy_sortedI (w := w) (g := g) (n := nn) (os := os) (l0.mergeSort fun x y => decide (x ≤ y)).toArray
    refine ⟨rfl, Kd.R_of_own (by rw [List.length_mergeSort]; exact hown) (fun k hk => .inl (ho0.1 k hk)), hB.grown hg hB.size (fun k hk => by cases hk; exact hbase), Kept.of_grown hg (Kept.refl _ _) (fun k hk => by cases hk; exact .inl (ho0.1 g rfl))⟩

def slices_Compact_closed.f (l0 : List Int) : Option (List Int) := if l0.length < 4611686018427387904 then some (Lib.compact l0) else none
theorem slices_Compact_closed.calls (P0_ : Nat → Prop) (u9000_ : Value) (l0 : List Int) (r : List Int) (w0 w : World) (hB : Below w0.heap.size w0 w) (ho0 : Kd.R (Kd.int .i64) 3 w w0.heap.size P0_ u9000_ l0) (h : slices_Compact_closed.f l0 = some r) :
    Calls Try.prog 83 #[u9000_] w fun e w' => ∃ v0_ : Value, e = .returned (v0_) ∧ Kd.R (Kd.int .i64) 3 w' w0.heap.size (fun k_ => (P0_ k_ ∨ w.heap.size ≤ k_)) v0_ r ∧ Below w0.heap.size w0 w' ∧ Kept w w' (fun k_ => P0_ k_) := by
  unfold slices_Compact_closed.f at h
  have hlen : l0.length < 4611686018427387904 := by
    by_cases hl : l0.length < 4611686018427387904
    · exact hl
    · rw [if_neg hl] at h; cases h
  rw [if_pos hlen] at h
  obtain rfl := Option.some.inj h
  clear h
  have ho := Kd.own_of_R ho0
  by_cases h0 : l0 = []
  · subst h0
    obtain ⟨A, c, rfl⟩ : ∃ A c, u9000_ = .slice A 0 c := by
      rcases ho.2 with ⟨rfl, _⟩ | ⟨g, cap, cur, rfl, _⟩
      · exact ⟨none, 0, rfl⟩
      · exact ⟨_, cap, rfl⟩
    have hc := AnyG.slices_Compact_int_empty Try.laysCompact A c w
    change Calls Try.prog 83 _ _ _ at hc
    refine hc.mono ?_
    rintro e w' ⟨rfl, rfl⟩
    exact ⟨_, rfl, Kd.R_mono ho0 (fun k hk => .inl hk), hB, Kept.refl _ _⟩
  · have hpos : 0 < l0.length := List.length_pos_iff.2 h0
    rcases ho.2 with ⟨rfl, hz⟩ | ⟨g, cap, cur, rfl, hbase, hb, h1, h2, h3, h4⟩
    · omega
    have h4' : cur.toList.take l0.length = l0.map (Value.int .i64) := by simpa [encs] using h4
    have hc := AnyG.slices_Compact_int Try.laysCompact g 0 cap l0 w (holds_of_blockI hb h4') (by omega) h1
    change Calls Try.prog 83 _ _ _ at hc
    refine hc.mono ?_
    rintro e w' ⟨rfl, nn, hw⟩
    have hle := Hm.compact_len l0
    obtain ⟨ts, hts⟩ : ∃ ts, ts = Lib.compact l0 ++ List.replicate (l0.length - (Lib.compact l0).length) 0 := ⟨_, rfl⟩
    have hl : ts.length = l0.length := by rw [hts]; simp; omega
    have htk : ts.take (Lib.compact l0).length = Lib.compact l0 := by rw [hts]; simp
    rw [← hts] at hw
    have hw2 : w' = grow (putRow (Value.int .i64) (Sort.ahead w nn) g 0 ts.toArray) #[] := by rw [grow_empty]; exact hw
    subst hw2
    clear hw hts
    have hown := ownsRow_sortedI (n := nn) (os := #[]) (ts := ts) hl hbase hb h1 h2 h3
    have hg := grownBy_sortedI (w := w) (g := g) (n := nn) (os := #[]) ts.toArray
    have hR : Kd.R (Kd.int .i64) 3 (grow (putRow (Value.int .i64) (Sort.ahead w nn) g 0 ts.toArray) #[]) w0.heap.size (fun k_ => (P0_ k_ ∨ w.heap.size ≤ k_)) (.slice (some ⟨g, 0, none⟩) l0.length cap) ts :=
      Kd.R_of_own (by rw [hl]; exact hown) (fun k hk => .inl (ho0.1 k hk))
    have hT := Kd.R_take hR (m := (Lib.compact l0).length) (by omega)
    rw [htk] at hT
    exact ⟨_, rfl, hT, hB.grown hg hB.size (fun k hk => by cases hk; exact hbase), Kept.of_grown hg (Kept.refl _ _) (fun k hk => by cases hk; exact .inl (ho0.1 g rfl))⟩
end Go.Proofs.Ytpfiecjacpbhkaa.Hw

/- What the Go functions named below come to, each told as_ a Lean function ('.f'), with the proof ('.calls'): no condition beyond those that each theorem states. Written by a program of this session's over the translation. -/
namespace Go.Proofs.Ytpfiecjacpbhkaa.F
open Go.RowKit Go.Proofs.YtpfiecjacpbhkaaW.PrintWords Go.Proofs.YtpfiecjacpbhkaaW.PrintLast Go.Proofs.YtpfiecjacpbhkaaW.PrintMore
attribute [local go_sem] max2_int min2_int max_two min_two max_three min_three max_four min_four   -- for this text's walks alone
set_option linter.unusedVariables false
set_option linter.unusedSimpArgs false

/-! ### calendar_isDay: function 65 -/
def calendar_isDay.f (a0 : Int) : Option (Bool) := if a0 ≥ 0 then (some (decide (a0 ≤ 1048576))) else (some false)
set_option maxHeartbeats 8000000 in
set_option maxRecDepth 100000 in
theorem calendar_isDay.calls (a0 : Int) (r : Bool) (w : World) (h : calendar_isDay.f a0 = some r) :
    Calls Try.prog 65 #[.int .i64 a0] w fun e w' => e = .returned (.bool r) ∧ Drawn0 w w' := by
  have H : (if a0 ≥ 0 then (some (decide (a0 ≤ 1048576))) else (some false)) = some r := h
  clear h
  by_cases c2 : a0 ≥ 0
  · rw [if_pos c2] at H
    have c2b0 : decide (0 ≤ a0) = true := decide_eq_true c2
    clear c2
    obtain rfl := Option.some.inj H
    go_enter Try.func65, Try.ntmps65
    go_wp2
    go_ret
    exact ⟨by first | rfl | (simp; done) | (simp [*]; done), by repeat (first | exact Drawn0.refl _ | apply Drawn0.step)⟩
  · rw [if_neg c2] at H
    have c2b0 : decide (0 ≤ a0) = false := decide_eq_false c2
    clear c2
    obtain rfl := Option.some.inj H
    go_enter Try.func65, Try.ntmps65
    go_wp2
    go_ret
    exact ⟨by first | rfl | (simp; done) | (simp [*]; done), by repeat (first | exact Drawn0.refl _ | apply Drawn0.step)⟩

/-! ### calendar_Weekday: function 81 -/
def calendar_Weekday.f (a0 : Int) : Option (Int) := some (Int.tmod (wrap64 ((Int.tmod a0 7) + 7)) 7)
set_option maxHeartbeats 8000000 in
set_option maxRecDepth 100000 in
theorem calendar_Weekday.calls (a0 : Int) (r : Int) (w : World) (h : calendar_Weekday.f a0 = some r) :
    Calls Try.prog 81 #[.int .i64 a0] w fun e w' => e = .returned (.int .i64 r) ∧ Drawn0 w w' := by
  have H : (some (Int.tmod (wrap64 ((Int.tmod a0 7) + 7)) 7)) = some r := h
  clear h
  obtain rfl := Option.some.inj H
  go_enter Try.func81, Try.ntmps81
  go_wp2
  go_ret
  exact ⟨by first | rfl | (simp; done) | (simp [*]; done), by repeat (first | exact Drawn0.refl _ | apply Drawn0.step)⟩

/-! ### calendar_sorted: function 66 -/
def calendar_sorted.l0 : Nat → List Int → List Int → Int → Int → Option (List Int)
  | 0, _, _, _, _ => none
  | k + 1, x3, x6, x7, x8 => if x8 < x7 then (if 0 ≤ x8 then (if x8 < (x6.length : Int) then ((calendar_isDay.f (rd x6 x8)).bind fun t106 => (if t106 = true then ((calendar_Weekday.f (rd x6 x8)).bind fun t107 => (if t107 < 5 then (if x3.length < 17592186044416 then (calendar_sorted.l0 k (x3 ++ [rd x6 x8]) x6 x7 (wrap64 (x8 + 1))) else (none)) else (calendar_sorted.l0 k x3 x6 x7 (wrap64 (x8 + 1))))) else (calendar_sorted.l0 k x3 x6 x7 (wrap64 (x8 + 1))))) else (none)) else (none)) else ((Hw.slices_Sort_closed.f x3).bind fun t101 => ((Hw.slices_Compact_closed.f t101).bind fun t102 => (some t102)))
def calendar_sorted.f (k : Nat) (l0 : List Int) : Option (List Int) := calendar_sorted.l0 k ([] : List Int) l0 (l0.length : Int) 0
theorem calendar_sorted.mono_l : ∀ k, (∀ y0 y1 y2 y3, LeO (calendar_sorted.l0 k y0 y1 y2 y3) (calendar_sorted.l0 (k + 1) y0 y1 y2 y3))
  | 0 => fun _ _ _ _ r h => by simp [calendar_sorted.l0] at h
  | k + 1 => by
    have ih0 := calendar_sorted.mono_l k
    · intro y0 y1 y2 y3
      unfold calendar_sorted.l0
      repeat' first
      | (with_reducible exact ih0 _ _ _ _)
      | (with_reducible exact LeO.refl _)
      | (with_reducible exact LeO.none _)
      | (with_reducible refine LeO.ite ?_ ?_)
      | (with_reducible refine LeO.bind ?_ (fun _ => ?_))
      | exact ih0 _ _ _ _
      | exact LeO.none _
      | refine LeO.ite ?_ ?_
      | refine LeO.bind ?_ (fun _ => ?_)
theorem calendar_sorted.mono : ∀ a0 k, LeO (calendar_sorted.f k a0) (calendar_sorted.f (k + 1) a0) := by
  intro a0 k
  have ih0 := calendar_sorted.mono_l k
  unfold calendar_sorted.f
  repeat' first
      | (with_reducible exact ih0 _ _ _ _)
      | (with_reducible exact LeO.refl _)
      | (with_reducible exact LeO.none _)
      | (with_reducible refine LeO.ite ?_ ?_)
      | (with_reducible refine LeO.bind ?_ (fun _ => ?_))
      | exact ih0 _ _ _ _
      | exact LeO.none _
      | refine LeO.ite ?_ ?_
      | refine LeO.bind ?_ (fun _ => ?_)
set_option maxHeartbeats 8000000 in
set_option maxRecDepth 100000 in
theorem calendar_sorted.calls (k : Nat) (A0 : Option Addr) (c0 : Nat) (l0 : List Int) (r : List Int) (w : World) (hr0 : Kd.C (Kd.int .i64) w A0 l0.length l0) (hc0 : l0.length ≤ c0) (h : calendar_sorted.f k l0 = some r) :
    Calls Try.prog 66 #[.slice A0 l0.length c0] w fun e w' => ∃ v0_ : Value, e = .returned (v0_) ∧ Kd.R (Kd.int .i64) 3 w' w.heap.size (fun _ => True) v0_ r ∧ Below w.heap.size w w' := by
  have HR0 := Aside0.mk hr0
  have HC0 := Aside0.mk hc0
  clear hr0 hc0
  have HB := Aside0.mk (Below.refl w.heap.size w)
  have H : (calendar_sorted.l0 k ([] : List Int) l0 (l0.length : Int) 0) = some r := h
  clear h
  have H' := Aside0.mk H
  clear H
  go_enter Try.func66, Try.ntmps66
  go_wp2
  go_loopg [3, 8] k (fun kq v3 v8 w' => ∃ (x3_1 : List Int) (x8_1 : Int), v8 = .int .i64 x8_1 ∧ Aside0 (calendar_sorted.l0 kq x3_1 l0 (l0.length : Int) x8_1 = some r) ∧ Aside0 (kq ≤ k) ∧ Aside0 (Kd.R (Kd.int .i64) 3 w' w.heap.size (fun _ => True) v3 x3_1) ∧ Aside0 (Below w.heap.size w w'))
  case atStart => exact ⟨(([] : List Int)), (0), (by first | rfl | (simp; done) | (simp [*]; done)), H', ⟨Nat.le_refl _⟩, ⟨by first | exact Kd.R_nil _ _ _ _ _ | exact Kd.N_nil _ _ _ _ _ | exact Kd.V_nil _ _ _ _ _ | exact Kd.Q_nil _ _ _ _ _ | exact Kd.S_nil _ _ _ _ _⟩, ⟨by repeat (first | (with_reducible first | exact HB.out | apply below_alloc | apply pw_below_drewN | apply below_drew1) | exact HB.out)⟩⟩
  case round =>
    clear H'
    obtain ⟨x3_1, x8_1, rfl, HA, HK1, HO_3, HB⟩ := hrel
    cases gk with
    | zero => exact absurd HA.out (by simp [calendar_sorted.l0])
    | succ k1 =>
      have H := HA.out
      clear HA
      simp only [calendar_sorted.l0] at H
      by_cases c2 : x8_1 < (l0.length : Int)
      · rw [if_pos c2] at H
        have c2b0 : decide (x8_1 < (l0.length : Int)) = true := decide_eq_true c2
        clear c2
        by_cases c3 : 0 ≤ x8_1
        · rw [if_pos c3] at H
          have c3b0 : decide (0 ≤ x8_1) = true := decide_eq_true c3
          clear c3
          by_cases c4 : x8_1 < (l0.length : Int)
          · rw [if_pos c4] at H
            have c4b0 : decide (x8_1 < (l0.length : Int)) = true := decide_eq_true c4
            clear c4
            replace H := Option.bind_eq_some_iff.mp H
            obtain ⟨t106, A50, H⟩ := H
            replace H : (if t106 = true then ((calendar_Weekday.f (rd l0 x8_1)).bind fun t107 => (if t107 < 5 then (if x3_1.length < 17592186044416 then (calendar_sorted.l0 k1 (x3_1 ++ [rd l0 x8_1]) l0 (l0.length : Int) (wrap64 (x8_1 + 1))) else (none)) else (calendar_sorted.l0 k1 x3_1 l0 (l0.length : Int) (wrap64 (x8_1 + 1))))) else (calendar_sorted.l0 k1 x3_1 l0 (l0.length : Int) (wrap64 (x8_1 + 1)))) = some r := H
            have A5 := Aside0.mk A50
            clear A50
            by_cases c6 : t106 = true
            · subst c6
              have H1 : ((calendar_Weekday.f (rd l0 x8_1)).bind fun t107 => (if t107 < 5 then (if x3_1.length < 17592186044416 then (calendar_sorted.l0 k1 (x3_1 ++ [rd l0 x8_1]) l0 (l0.length : Int) (wrap64 (x8_1 + 1))) else (none)) else (calendar_sorted.l0 k1 x3_1 l0 (l0.length : Int) (wrap64 (x8_1 + 1))))) = some r := by rw [if_pos rfl] at H; exact H
              clear H
              have H := H1
              clear H1
              replace H := Option.bind_eq_some_iff.mp H
              obtain ⟨t107, A70, H⟩ := H
              replace H : (if t107 < 5 then (if x3_1.length < 17592186044416 then (calendar_sorted.l0 k1 (x3_1 ++ [rd l0 x8_1]) l0 (l0.length : Int) (wrap64 (x8_1 + 1))) else (none)) else (calendar_sorted.l0 k1 x3_1 l0 (l0.length : Int) (wrap64 (x8_1 + 1)))) = some r := H
              have A7 := Aside0.mk A70
              clear A70
              by_cases c8 : t107 < 5
              · rw [if_pos c8] at H
                have c8b0 : decide (t107 < 5) = true := decide_eq_true c8
                clear c8
                by_cases c9 : x3_1.length < 17592186044416
                · rw [if_pos c9] at H
                  have LMc9 := Aside0.mk c9
                  clear c9
                  obtain ⟨y108, hy108⟩ : ∃ y_ : List Int, y_ = (x3_1 ++ [rd l0 x8_1]) := ⟨_, rfl⟩
                  replace H : (calendar_sorted.l0 k1 y108 l0 (l0.length : Int) (wrap64 (x8_1 + 1))) = some r := by first | (rw [hy108]; with_reducible exact H) | (have H2_ := (Option.bind_some _ _).symm.trans H; rw [hy108]; with_reducible exact H2_) | (have H2_ := (Option.bind_some _ _).symm.trans H; with_reducible exact H2_) | with_reducible exact H | (rw [hy108]; exact H) | exact H
                  have Ny108 := Aside0.mk hy108
                  clear hy108
                  have H' := Aside0.mk H
                  clear H
                  have p105 : 0 ≤ (x8_1 : Int) := of_decide_eq_true (by first | (with_reducible assumption) | assumption)
                  have q105 : x8_1 < (l0.length : Int) := of_decide_eq_true (by first | (with_reducible assumption) | assumption)
                  obtain ⟨ad105, e105, hx105_0⟩ := Kd.at_int HR0.out x8_1 p105 q105
                  cases e105
                  replace hx105_0 := (HB.out.cell (World.block_lt_of_cell? w _ hx105_0)).trans hx105_0
                  replace p105 := eq_true p105
                  replace q105 := eq_true q105
                  go_wp2_with (first | ((with_reducible refine gate_callee (f := 65) rfl ?_); refine goesL_ (some 13) rfl rfl Try.func65 (by kernel_rfl) rfl #[.int .i64 (rd l0 x8_1)] rfl (by (try simp only [List.map_toArray, List.map_cons, List.map_nil]); first | done | rfl | (simp only [List.length_drop, List.length_take]; rfl)) ?_; (with_reducible refine (calendar_isDay.calls (rd l0 x8_1) true _ A5.out).mono ?_); rintro e w' ⟨rfl, ⟨nd, rfl⟩⟩; refine ⟨_, rfl, ?_⟩) | (go_at_call 81; (with_reducible refine (calendar_Weekday.calls (rd l0 x8_1) t107 _ A7.out).mono ?_); rintro e w' ⟨rfl, ⟨nd, rfl⟩⟩) | ((with_reducible refine gate_builtin (b := .append) (xs := #[.tmp 19, .tmp 21]) rfl ?_); at_builtin; refine Kd.R_append (Kd.int .i64) (w0 := w) w.heap.size rfl (.tmp 19) (.tmp 21) 113 3 (.int .i64 0) 8 rfl Try.underlying113 info3 rfl (by decide) (by omega) u3 x3_1 (rd l0 x8_1) [.int .i64 (rd l0 x8_1)] (fun _ => True) (fun _ => False) rfl rfl ?aP (fun _ hk => hk.elim) ?aF ?aO ?aB ?aS ?aL ?_; (case aP => exact rfl); (case aB => exact (by repeat (first | (with_reducible first | exact HB.out | apply below_alloc | apply pw_below_drewN | apply below_drew1) | exact HB.out))); (case aF => exact (fun _ _ => trivial)); (case aO => exact (by (with_reducible repeat (first | apply Kd.R_alloc | apply Kd.R_drewN | apply Kd.R_drew)); exact HO_3.out)); (case aS => exact (below_size (by repeat (first | (with_reducible first | exact HB.out | apply below_alloc | apply pw_below_drewN | apply below_drew1) | exact HB.out)))); (case aL => have := LMc9.out; omega); intro v109 w10 ho hb hg hat; rw [← Ny108.out] at ho; have n0_ := Aside0.mk (hb); have n1_ := Aside0.mk (ho); clear HB; clear HO_3; have HB := n0_; have HO110 := n1_; clear n0_ n1_; clear ho hb hg hat))
                  go_roundg k1
                  case measure => have := HK1.out; omega
                  case rel => exact ⟨(y108), (wrap64 (x8_1 + 1)), (by first | rfl | (simp; done) | (simp [*]; done)), H', ⟨by have := HK1.out; omega⟩, ⟨by (with_reducible repeat (first | apply Kd.R_alloc | apply Kd.R_drewN | apply Kd.R_drew)); exact HO110.out⟩, ⟨by repeat (first | (with_reducible first | exact HB.out | apply below_alloc | apply pw_below_drewN | apply below_drew1) | exact HB.out)⟩⟩
                · rw [if_neg c9] at H
                  exact absurd H (by simp)
              · rw [if_neg c8] at H
                have c8b0 : decide (t107 < 5) = false := decide_eq_false c8
                clear c8
                have H' := Aside0.mk H
                clear H
                have p105 : 0 ≤ (x8_1 : Int) := of_decide_eq_true (by first | (with_reducible assumption) | assumption)
                have q105 : x8_1 < (l0.length : Int) := of_decide_eq_true (by first | (with_reducible assumption) | assumption)
                obtain ⟨ad105, e105, hx105_0⟩ := Kd.at_int HR0.out x8_1 p105 q105
                cases e105
                replace hx105_0 := (HB.out.cell (World.block_lt_of_cell? w _ hx105_0)).trans hx105_0
                replace p105 := eq_true p105
                replace q105 := eq_true q105
                go_wp2_with (first | ((with_reducible refine gate_callee (f := 65) rfl ?_); refine goesL_ (some 13) rfl rfl Try.func65 (by kernel_rfl) rfl #[.int .i64 (rd l0 x8_1)] rfl (by (try simp only [List.map_toArray, List.map_cons, List.map_nil]); first | done | rfl | (simp only [List.length_drop, List.length_take]; rfl)) ?_; (with_reducible refine (calendar_isDay.calls (rd l0 x8_1) true _ A5.out).mono ?_); rintro e w' ⟨rfl, ⟨nd, rfl⟩⟩; refine ⟨_, rfl, ?_⟩) | (go_at_call 81; (with_reducible refine (calendar_Weekday.calls (rd l0 x8_1) t107 _ A7.out).mono ?_); rintro e w' ⟨rfl, ⟨nd, rfl⟩⟩))
                go_roundg k1
                case measure => have := HK1.out; omega
                case rel => exact ⟨(x3_1), (wrap64 (x8_1 + 1)), (by first | rfl | (simp; done) | (simp [*]; done)), H', ⟨by have := HK1.out; omega⟩, ⟨by (with_reducible repeat (first | apply Kd.R_alloc | apply Kd.R_drewN | apply Kd.R_drew)); exact HO_3.out⟩, ⟨by repeat (first | (with_reducible first | exact HB.out | apply below_alloc | apply pw_below_drewN | apply below_drew1) | exact HB.out)⟩⟩
            · replace c6 := Bool.eq_false_iff.mpr c6
              subst c6
              have H1 : (calendar_sorted.l0 k1 x3_1 l0 (l0.length : Int) (wrap64 (x8_1 + 1))) = some r := by rw [if_neg (show ¬ (false = true) by decide)] at H; exact H
              clear H
              have H := H1
              clear H1
              have H' := Aside0.mk H
              clear H
              have p105 : 0 ≤ (x8_1 : Int) := of_decide_eq_true (by first | (with_reducible assumption) | assumption)
              have q105 : x8_1 < (l0.length : Int) := of_decide_eq_true (by first | (with_reducible assumption) | assumption)
              obtain ⟨ad105, e105, hx105_0⟩ := Kd.at_int HR0.out x8_1 p105 q105
              cases e105
              replace hx105_0 := (HB.out.cell (World.block_lt_of_cell? w _ hx105_0)).trans hx105_0
              replace p105 := eq_true p105
              replace q105 := eq_true q105
              go_wp2_with (first | ((with_reducible refine gate_callee (f := 65) rfl ?_); refine goesL_ (some 13) rfl rfl Try.func65 (by kernel_rfl) rfl #[.int .i64 (rd l0 x8_1)] rfl (by (try simp only [List.map_toArray, List.map_cons, List.map_nil]); first | done | rfl | (simp only [List.length_drop, List.length_take]; rfl)) ?_; (with_reducible refine (calendar_isDay.calls (rd l0 x8_1) false _ A5.out).mono ?_); rintro e w' ⟨rfl, ⟨nd, rfl⟩⟩; refine ⟨_, rfl, ?_⟩))
              go_roundg k1
              case measure => have := HK1.out; omega
              case rel => exact ⟨(x3_1), (wrap64 (x8_1 + 1)), (by first | rfl | (simp; done) | (simp [*]; done)), H', ⟨by have := HK1.out; omega⟩, ⟨by (with_reducible repeat (first | apply Kd.R_alloc | apply Kd.R_drewN | apply Kd.R_drew)); exact HO_3.out⟩, ⟨by repeat (first | (with_reducible first | exact HB.out | apply below_alloc | apply pw_below_drewN | apply below_drew1) | exact HB.out)⟩⟩
          · rw [if_neg c4] at H
            exact absurd H (by simp)
        · rw [if_neg c3] at H
          exact absurd H (by simp)
      · rw [if_neg c2] at H
        have c2b0 : decide (x8_1 < (l0.length : Int)) = false := decide_eq_false c2
        clear c2
        replace H := Option.bind_eq_some_iff.mp H
        obtain ⟨t101, A110, H⟩ := H
        replace H : ((Hw.slices_Compact_closed.f t101).bind fun t102 => (some t102)) = some r := H
        have A11 := Aside0.mk A110
        clear A110
        replace H := Option.bind_eq_some_iff.mp H
        obtain ⟨t102, A120, H⟩ := H
        replace H : (some t102) = some r := H
        have A12 := Aside0.mk A120
        clear A120
        obtain rfl := Option.some.inj H
        obtain ⟨Ao13, co13, eo13⟩ := Kd.R_slice HO_3.out
        subst eo13
        go_wp2_with (first | ((with_reducible refine gate_callee (f := 82) rfl ?_); refine goesL_ (some 25) rfl rfl Try.func82 (by kernel_rfl) rfl #[.slice Ao13 x3_1.length co13] rfl (by (try simp only [List.map_toArray, List.map_cons, List.map_nil]); first | done | rfl | (simp only [List.length_drop, List.length_take]; rfl)) ?_; (with_reducible refine (Hw.slices_Sort_closed.calls (fun k_ => some k_ = (.slice Ao13 x3_1.length co13 : Value).ownBlock) (.slice Ao13 x3_1.length co13) x3_1 t101 w _ ?side1 ?side2 A11.out).mono ?_); (case side1 => repeat (first | (with_reducible first | exact HB.out | apply below_alloc | apply pw_below_drewN | apply below_drew1) | exact HB.out)); (case side2 => exact Kd.R_tight rfl HO_3.out); rintro e w14 ⟨rfl, hy0, hb, hkp⟩; refine ⟨_, rfl, ?_⟩; have n0_ := Aside0.mk (Kd.R_reok rfl hy0 (fun k_ e_ => HO_3.out.1 k_ e_)); have n1_ := Aside0.mk (hb); clear HO_3; clear HB; have HO_3 := n0_; have HB := n1_; clear n0_ n1_; (try clear hb); (try clear hkp); (try clear hy0)) | ((with_reducible refine gate_callee (f := 83) rfl ?_); refine goesL_ (some 27) rfl rfl Try.func83 (by kernel_rfl) rfl #[.slice Ao13 x3_1.length co13] rfl (by (try simp only [List.map_toArray, List.map_cons, List.map_nil]); first | done | rfl | (simp only [List.length_drop, List.length_take]; rfl)) ?_; (with_reducible refine (Hw.slices_Compact_closed.calls (fun k_ => some k_ = (.slice Ao13 x3_1.length co13 : Value).ownBlock) (.slice Ao13 x3_1.length co13) t101 t102 w _ ?side1 ?side2 A12.out).mono ?_); (case side1 => repeat (first | (with_reducible first | exact HB.out | apply below_alloc | apply pw_below_drewN | apply below_drew1) | exact HB.out)); (case side2 => exact Kd.R_tight rfl HO_3.out); rintro e w15 ⟨v103, rfl, ho0, hb, hkp⟩; refine ⟨_, rfl, ?_⟩; have n0_ := Aside0.mk (Kd.R_mono (ok' := fun k_ => True) ho0 (fun k_ hk_ => trivial)); have n1_ := Aside0.mk (hb); clear HB; clear HO_3; have HO104 := n0_; have HB := n1_; clear n0_ n1_; (try clear hb); (try clear hkp); (try clear ho0)))
        go_ret
        exact ⟨_, by first | rfl | (simp [errW_none, errW_some] <;> rfl) | (simp [*, errW_none, errW_some] <;> rfl), by (with_reducible repeat (first | apply Kd.R_alloc | apply Kd.R_drewN | apply Kd.R_drew)); exact HO104.out, by repeat (first | (with_reducible first | exact HB.out | apply below_alloc | apply pw_below_drewN | apply below_drew1) | exact HB.out)⟩

/-! ### calendar_Add: function 58 -/
def calendar_Add.j0 : Nat → Int → Int → List Int → Bool → Option (Int × Int)
  | 0, _, _, _, _ => none
  | k + 1, x0, x1, x2, x22 => if x22 = true then (some (0, 1)) else ((calendar_sorted.f k x2).bind fun t112 => (if x1 = 0 then ((E.calendar_closed_before.f t112 x0).bind fun t115 => ((Hw.calendar_closed_nth.f t112 t115).bind fun bt116 => (some (bt116.1, bt116.2)))) else ((E.calendar_closed_before.f t112 (wrap64 (x0 + 1))).bind fun t118 => ((Hw.calendar_closed_nth.f t112 (wrap64 ((wrap64 (t118 + x1)) - 1))).bind fun bt119 => (some (bt119.1, bt119.2))))))
def calendar_Add.f (k : Nat) (a0 : Int) (a1 : Int) (l2 : List Int) : Option (Int × Int) := if (l2.length : Int) > 1000 then (some (0, 2)) else ((calendar_isDay.f a0).bind fun t111 => (if t111 = true then (if a1 < 0 then (calendar_Add.j0 k a0 a1 l2 true) else (calendar_Add.j0 k a0 a1 l2 (decide (a1 > 1048576)))) else (calendar_Add.j0 k a0 a1 l2 true)))
theorem calendar_Add.mono_l : ∀ k, (∀ y0 y1 y2 y3, LeO (calendar_Add.j0 k y0 y1 y2 y3) (calendar_Add.j0 (k + 1) y0 y1 y2 y3))
  | 0 => fun _ _ _ _ r h => by simp [calendar_Add.j0] at h
  | k + 1 => by
    have ih0 := calendar_Add.mono_l k
    · intro y0 y1 y2 y3
      unfold calendar_Add.j0
      repeat' first
      | (with_reducible exact ih0 _ _ _ _)
      | (with_reducible exact calendar_sorted.mono _ _)
      | (with_reducible exact LeO.refl _)
      | (with_reducible exact LeO.none _)
      | (with_reducible refine LeO.ite ?_ ?_)
      | (with_reducible refine LeO.bind ?_ (fun _ => ?_))
      | exact ih0 _ _ _ _
      | exact calendar_sorted.mono _ _
      | exact LeO.none _
      | refine LeO.ite ?_ ?_
      | refine LeO.bind ?_ (fun _ => ?_)
theorem calendar_Add.mono : ∀ a0 a1 a2 k, LeO (calendar_Add.f k a0 a1 a2) (calendar_Add.f (k + 1) a0 a1 a2) := by
  intro a0 a1 a2 k
  have ih0 := calendar_Add.mono_l k
  unfold calendar_Add.f
  repeat' first
      | (with_reducible exact ih0 _ _ _ _)
      | (with_reducible exact calendar_sorted.mono _ _)
      | (with_reducible exact LeO.refl _)
      | (with_reducible exact LeO.none _)
      | (with_reducible refine LeO.ite ?_ ?_)
      | (with_reducible refine LeO.bind ?_ (fun _ => ?_))
      | exact ih0 _ _ _ _
      | exact calendar_sorted.mono _ _
      | exact LeO.none _
      | refine LeO.ite ?_ ?_
      | refine LeO.bind ?_ (fun _ => ?_)
set_option maxHeartbeats 8000000 in
set_option maxRecDepth 100000 in
theorem calendar_Add.calls (k : Nat) (a0 : Int) (a1 : Int) (A2 : Option Addr) (c2 : Nat) (l2 : List Int) (r1 : Int) (r2 : Int) (w : World) (hr2 : Kd.C (Kd.int .i64) w A2 l2.length l2) (hc2 : l2.length ≤ c2) (h : calendar_Add.f k a0 a1 l2 = some (r1, r2)) :
    Calls Try.prog 58 #[.int .i64 a0, .int .i64 a1, .slice A2 l2.length c2] w fun e w' => e = .returned (.tuple #[.int .i64 r1, .int .i64 r2]) ∧ Below w.heap.size w w' := by
  have HR2 := Aside0.mk hr2
  have HC2 := Aside0.mk hc2
  clear hr2 hc2
  have HB := Aside0.mk (Below.refl w.heap.size w)
  have H : (if (l2.length : Int) > 1000 then (some (0, 2)) else ((calendar_isDay.f a0).bind fun t111 => (if t111 = true then (if a1 < 0 then (calendar_Add.j0 k a0 a1 l2 true) else (calendar_Add.j0 k a0 a1 l2 (decide (a1 > 1048576)))) else (calendar_Add.j0 k a0 a1 l2 true)))) = some (r1, r2) := h
  clear h
  by_cases c4 : (l2.length : Int) > 1000
  · rw [if_pos c4] at H
    have c4b0 : decide (1000 < (l2.length : Int)) = true := decide_eq_true c4
    have c4b1 : decide (1000 < l2.length) = true := decide_eq_true (by omega)
    clear c4
    simp only [Option.some.injEq, Prod.mk.injEq] at H
    obtain ⟨rfl, rfl⟩ := H
    go_enter Try.func58, Try.ntmps58
    go_wp2
    go_ret2
    exact ⟨by first | rfl | (simp [errW_none, errW_some] <;> rfl) | (simp [*, errW_none, errW_some] <;> rfl), by repeat (first | (with_reducible first | exact HB.out | apply below_alloc | apply pw_below_drewN | apply below_drew1) | exact HB.out)⟩
  · rw [if_neg c4] at H
    have c4b0 : decide (1000 < (l2.length : Int)) = false := decide_eq_false c4
    have c4b1 : decide (1000 < l2.length) = false := decide_eq_false (by omega)
    clear c4
    have HC5 := Aside0.mk H
    clear H
    go_enter Try.func58, Try.ntmps58
    go_upto_region 3 with (fail)
    go_cut [22] (fun v22 wc => ∃ (kq : Nat) (x22_4 : Bool), v22 = .bool x22_4 ∧ Aside0 (calendar_Add.j0 kq a0 a1 l2 x22_4 = some (r1, r2)) ∧ Aside0 (kq ≤ k) ∧ Aside0 (Below w.heap.size w wc))
    case first =>
      have H := HC5.out
      clear HC5
      replace H := Option.bind_eq_some_iff.mp H
      obtain ⟨t111, A60, H⟩ := H
      replace H : (if t111 = true then (if a1 < 0 then (calendar_Add.j0 k a0 a1 l2 true) else (calendar_Add.j0 k a0 a1 l2 (decide (a1 > 1048576)))) else (calendar_Add.j0 k a0 a1 l2 true)) = some (r1, r2) := H
      have A6 := Aside0.mk A60
      clear A60
      by_cases c7 : t111 = true
      · subst c7
        have H1 : (if a1 < 0 then (calendar_Add.j0 k a0 a1 l2 true) else (calendar_Add.j0 k a0 a1 l2 (decide (a1 > 1048576)))) = some (r1, r2) := by rw [if_pos rfl] at H; exact H
        clear H
        have H := H1
        clear H1
        by_cases c8 : a1 < 0
        · rw [if_pos c8] at H
          have c8b0 : decide (a1 < 0) = true := decide_eq_true c8
          clear c8
          (first | rw [c8b0] | (simp only [i64_w, i32_w]; rw [c8b0]) | skip)
          have H' := Aside0.mk H
          clear H
          go_wp2_with (first | ((with_reducible refine gate_callee (f := 65) rfl ?_); refine goesL_ (some 13) rfl rfl Try.func65 (by kernel_rfl) rfl #[.int .i64 a0] rfl (by (try simp only [List.map_toArray, List.map_cons, List.map_nil]); first | done | rfl | (simp only [List.length_drop, List.length_take]; rfl)) ?_; (with_reducible refine (calendar_isDay.calls a0 true _ A6.out).mono ?_); rintro e w' ⟨rfl, ⟨nd, rfl⟩⟩; refine ⟨_, rfl, ?_⟩))
          go_meet
          case rel => exact ⟨_, (true), (by first | rfl | (simp; done) | (simp [*]; done)), H', ⟨by first | omega | exact Nat.le_refl _⟩, ⟨by repeat (first | (with_reducible first | exact HB.out | apply below_alloc | apply pw_below_drewN | apply below_drew1) | exact HB.out)⟩⟩
        · rw [if_neg c8] at H
          have c8b0 : decide (a1 < 0) = false := decide_eq_false c8
          clear c8
          (first | rw [c8b0] | (simp only [i64_w, i32_w]; rw [c8b0]) | skip)
          have H' := Aside0.mk H
          clear H
          go_wp2_with (first | ((with_reducible refine gate_callee (f := 65) rfl ?_); refine goesL_ (some 13) rfl rfl Try.func65 (by kernel_rfl) rfl #[.int .i64 a0] rfl (by (try simp only [List.map_toArray, List.map_cons, List.map_nil]); first | done | rfl | (simp only [List.length_drop, List.length_take]; rfl)) ?_; (with_reducible refine (calendar_isDay.calls a0 true _ A6.out).mono ?_); rintro e w' ⟨rfl, ⟨nd, rfl⟩⟩; refine ⟨_, rfl, ?_⟩))
          go_meet
          case rel => exact ⟨_, (decide (a1 > 1048576)), (by first | rfl | (simp; done) | (simp [*]; done)), H', ⟨by first | omega | exact Nat.le_refl _⟩, ⟨by repeat (first | (with_reducible first | exact HB.out | apply below_alloc | apply pw_below_drewN | apply below_drew1) | exact HB.out)⟩⟩
      · replace c7 := Bool.eq_false_iff.mpr c7
        subst c7
        have H1 : (calendar_Add.j0 k a0 a1 l2 true) = some (r1, r2) := by rw [if_neg (show ¬ (false = true) by decide)] at H; exact H
        clear H
        have H := H1
        clear H1
        have H' := Aside0.mk H
        clear H
        go_wp2_with (first | ((with_reducible refine gate_callee (f := 65) rfl ?_); refine goesL_ (some 13) rfl rfl Try.func65 (by kernel_rfl) rfl #[.int .i64 a0] rfl (by (try simp only [List.map_toArray, List.map_cons, List.map_nil]); first | done | rfl | (simp only [List.length_drop, List.length_take]; rfl)) ?_; (with_reducible refine (calendar_isDay.calls a0 false _ A6.out).mono ?_); rintro e w' ⟨rfl, ⟨nd, rfl⟩⟩; refine ⟨_, rfl, ?_⟩))
        go_meet
        case rel => exact ⟨_, (true), (by first | rfl | (simp; done) | (simp [*]; done)), H', ⟨by first | omega | exact Nat.le_refl _⟩, ⟨by repeat (first | (with_reducible first | exact HB.out | apply below_alloc | apply pw_below_drewN | apply below_drew1) | exact HB.out)⟩⟩
    case rest =>
      clear HC5
      try clear c2
      try clear p2
      try clear c4
      try clear c4b0
      try clear c4b1
      try clear c5
      try clear c6
      try clear c7
      try clear c8
      try clear c8b0
      obtain ⟨kq, x22_4, rfl, HA, HJ4, HB⟩ := hcut
      cases kq with
      | zero => exact absurd HA.out (by simp [calendar_Add.j0])
      | succ kj4 =>
        have H := HA.out
        clear HA
        simp only [calendar_Add.j0] at H
        by_cases c9 : x22_4 = true
        · subst c9
          have H1 : (some (0, 1)) = some (r1, r2) := by rw [if_pos rfl] at H; exact H
          clear H
          have H := H1
          clear H1
          simp only [Option.some.injEq, Prod.mk.injEq] at H
          obtain ⟨rfl, rfl⟩ := H
          go_wp2
          go_ret2
          exact ⟨by first | rfl | (simp [errW_none, errW_some] <;> rfl) | (simp [*, errW_none, errW_some] <;> rfl), by repeat (first | (with_reducible first | exact HB.out | apply below_alloc | apply pw_below_drewN | apply below_drew1) | exact HB.out)⟩
        · replace c9 := Bool.eq_false_iff.mpr c9
          subst c9
          have H1 : ((calendar_sorted.f kj4 l2).bind fun t112 => (if a1 = 0 then ((E.calendar_closed_before.f t112 a0).bind fun t115 => ((Hw.calendar_closed_nth.f t112 t115).bind fun bt116 => (some (bt116.1, bt116.2)))) else ((E.calendar_closed_before.f t112 (wrap64 (a0 + 1))).bind fun t118 => ((Hw.calendar_closed_nth.f t112 (wrap64 ((wrap64 (t118 + a1)) - 1))).bind fun bt119 => (some (bt119.1, bt119.2)))))) = some (r1, r2) := by rw [if_neg (show ¬ (false = true) by decide)] at H; exact H
          clear H
          have H := H1
          clear H1
          replace H := Option.bind_eq_some_iff.mp H
          obtain ⟨t112, A100, H⟩ := H
          replace H : (if a1 = 0 then ((E.calendar_closed_before.f t112 a0).bind fun t115 => ((Hw.calendar_closed_nth.f t112 t115).bind fun bt116 => (some (bt116.1, bt116.2)))) else ((E.calendar_closed_before.f t112 (wrap64 (a0 + 1))).bind fun t118 => ((Hw.calendar_closed_nth.f t112 (wrap64 ((wrap64 (t118 + a1)) - 1))).bind fun bt119 => (some (bt119.1, bt119.2))))) = some (r1, r2) := H
          have A10 := Aside0.mk A100
          clear A100
          by_cases c11 : a1 = 0
          · rw [if_pos c11] at H
            have c11b0 : (a1 == 0) = true := beq_iff_eq.mpr c11
            have c11b1 : (a1 != 0) = false := bne_eq_false_iff_eq.mpr c11
            clear c11
            replace H := Option.bind_eq_some_iff.mp H
            obtain ⟨t115, A120, H⟩ := H
            replace H : ((Hw.calendar_closed_nth.f t112 t115).bind fun bt116 => (some (bt116.1, bt116.2))) = some (r1, r2) := H
            have A12 := Aside0.mk A120
            clear A120
            replace H := Option.bind_eq_some_iff.mp H
            obtain ⟨⟨t116, t117⟩, A130, H⟩ := H
            replace H : (some (t116, t117)) = some (r1, r2) := H
            have A13 := Aside0.mk A130
            clear A130
            simp only [Option.some.injEq, Prod.mk.injEq] at H
            obtain ⟨rfl, rfl⟩ := H
            go_wp2_with (first | ((with_reducible refine gate_callee (f := 66) rfl ?_); refine goesL_ (some 24) rfl rfl Try.func66 (by kernel_rfl) rfl #[.slice A2 l2.length c2] rfl (by (try simp only [List.map_toArray, List.map_cons, List.map_nil]); first | done | rfl | (simp only [List.length_drop, List.length_take]; rfl)) ?_; (with_reducible refine (calendar_sorted.calls kj4 _ _ l2 t112 _ ?side1 ?side2 A10.out).mono ?_); (case side1 => repeat (first | exact (Kd.C_below HR2.out HB.out) | (with_reducible refine Kd.C_alloc ?_ _) | (with_reducible refine Kd.C_drewN ?_ _) | (with_reducible refine Kd.C_drew ?_))); (case side2 => exact HC2.out); rintro e w14 ⟨v113, rfl, ho0, hb⟩; refine ⟨_, rfl, ?_⟩; have n0_ := Aside0.mk (Kd.R_lower ho0 (below_size (by repeat (first | (with_reducible first | exact HB.out | apply below_alloc | apply pw_below_drewN | apply below_drew1) | exact HB.out)))); have n1_ := Aside0.mk (below_step (by repeat (first | (with_reducible first | exact HB.out | apply below_alloc | apply pw_below_drewN | apply below_drew1) | exact HB.out)) hb); clear HB; have HO114 := n0_; have HB := n1_; clear n0_ n1_; (try clear hb); (try clear hb2); (try clear hk); (try clear hi); (try clear ho0); obtain ⟨Ao15, co15, eo15⟩ := Kd.R_slice HO114.out; subst eo15) | ((with_reducible refine gate_callee (f := 68) rfl ?_); refine goesL_ (some 30) rfl rfl Try.func68 (by kernel_rfl) rfl #[.slice Ao15 t112.length co15, .int .i64 a0] rfl (by (try simp only [List.map_toArray, List.map_cons, List.map_nil]); first | done | rfl | (simp only [List.length_drop, List.length_take]; rfl)) ?_; (with_reducible refine (E.calendar_closed_before.calls _ _ t112 a0 t115 _ ?side1 ?side2 A12.out).mono ?_); (case side1 => repeat (first | exact (Kd.R_reads' HO114.out).2.2 | (with_reducible refine Kd.C_alloc ?_ _) | (with_reducible refine Kd.C_drewN ?_ _) | (with_reducible refine Kd.C_drew ?_))); (case side2 => exact (Kd.R_reads' HO114.out).2.1); rintro e w16 ⟨rfl, hb⟩; refine ⟨_, rfl, ?_⟩; have n0_ := Aside0.mk (Kd.R_below (by (with_reducible repeat (first | apply Kd.R_alloc | apply Kd.R_drewN | apply Kd.R_drew)); exact HO114.out) hb); have n1_ := Aside0.mk (below_step (by repeat (first | (with_reducible first | exact HB.out | apply below_alloc | apply pw_below_drewN | apply below_drew1) | exact HB.out)) hb); clear HO114; clear HB; have HO114 := n0_; have HB := n1_; clear n0_ n1_; (try clear hb); (try clear hb2); (try clear hk); (try clear hi)) | ((with_reducible refine gate_callee (f := 67) rfl ?_); refine goesL_ (some 31) rfl rfl Try.func67 (by kernel_rfl) rfl #[.slice Ao15 t112.length co15, .int .i64 t115] rfl (by (try simp only [List.map_toArray, List.map_cons, List.map_nil]); first | done | rfl | (simp only [List.length_drop, List.length_take]; rfl)) ?_; (with_reducible refine (Hw.calendar_closed_nth.calls _ _ t112 t115 t116 t117 _ ?side1 ?side2 A13.out).mono ?_); (case side1 => repeat (first | exact (Kd.R_reads' HO114.out).2.2 | (with_reducible refine Kd.C_alloc ?_ _) | (with_reducible refine Kd.C_drewN ?_ _) | (with_reducible refine Kd.C_drew ?_))); (case side2 => exact (Kd.R_reads' HO114.out).2.1); rintro e w17 ⟨rfl, hb⟩; refine ⟨_, rfl, ?_⟩; have n0_ := Aside0.mk (Kd.R_below (by (with_reducible repeat (first | apply Kd.R_alloc | apply Kd.R_drewN | apply Kd.R_drew)); exact HO114.out) hb); have n1_ := Aside0.mk (below_step (by repeat (first | (with_reducible first | exact HB.out | apply below_alloc | apply pw_below_drewN | apply below_drew1) | exact HB.out)) hb); clear HO114; clear HB; have HO114 := n0_; have HB := n1_; clear n0_ n1_; (try clear hb); (try clear hb2); (try clear hk); (try clear hi)))
            go_ret2
            exact ⟨by first | rfl | (simp [errW_none, errW_some] <;> rfl) | (simp [*, errW_none, errW_some] <;> rfl), by repeat (first | (with_reducible first | exact HB.out | apply below_alloc | apply pw_below_drewN | apply below_drew1) | exact HB.out)⟩
          · rw [if_neg c11] at H
            have c11b0 : (a1 == 0) = false := beq_eq_false_iff_ne.mpr c11
            have c11b1 : (a1 != 0) = true := bne_iff_ne.mpr c11
            replace H := Option.bind_eq_some_iff.mp H
            obtain ⟨t118, A180, H⟩ := H
            replace H : ((Hw.calendar_closed_nth.f t112 (wrap64 ((wrap64 (t118 + a1)) - 1))).bind fun bt119 => (some (bt119.1, bt119.2))) = some (r1, r2) := H
            have A18 := Aside0.mk A180
            clear A180
            replace H := Option.bind_eq_some_iff.mp H
            obtain ⟨⟨t119, t120⟩, A190, H⟩ := H
            replace H : (some (t119, t120)) = some (r1, r2) := H
            have A19 := Aside0.mk A190
            clear A190
            simp only [Option.some.injEq, Prod.mk.injEq] at H
            obtain ⟨rfl, rfl⟩ := H
            go_wp2_with (first | ((with_reducible refine gate_callee (f := 66) rfl ?_); refine goesL_ (some 24) rfl rfl Try.func66 (by kernel_rfl) rfl #[.slice A2 l2.length c2] rfl (by (try simp only [List.map_toArray, List.map_cons, List.map_nil]); first | done | rfl | (simp only [List.length_drop, List.length_take]; rfl)) ?_; (with_reducible refine (calendar_sorted.calls kj4 _ _ l2 t112 _ ?side1 ?side2 A10.out).mono ?_); (case side1 => repeat (first | exact (Kd.C_below HR2.out HB.out) | (with_reducible refine Kd.C_alloc ?_ _) | (with_reducible refine Kd.C_drewN ?_ _) | (with_reducible refine Kd.C_drew ?_))); (case side2 => exact HC2.out); rintro e w20 ⟨v113, rfl, ho0, hb⟩; refine ⟨_, rfl, ?_⟩; have n0_ := Aside0.mk (Kd.R_lower ho0 (below_size (by repeat (first | (with_reducible first | exact HB.out | apply below_alloc | apply pw_below_drewN | apply below_drew1) | exact HB.out)))); have n1_ := Aside0.mk (below_step (by repeat (first | (with_reducible first | exact HB.out | apply below_alloc | apply pw_below_drewN | apply below_drew1) | exact HB.out)) hb); clear HB; have HO114 := n0_; have HB := n1_; clear n0_ n1_; (try clear hb); (try clear hb2); (try clear hk); (try clear hi); (try clear ho0); obtain ⟨Ao21, co21, eo21⟩ := Kd.R_slice HO114.out; subst eo21) | ((with_reducible refine gate_callee (f := 68) rfl ?_); refine goesL_ (some 38) rfl rfl Try.func68 (by kernel_rfl) rfl #[.slice Ao21 t112.length co21, .int .i64 (wrap64 (a0 + 1))] rfl (by (try simp only [List.map_toArray, List.map_cons, List.map_nil]); first | done | rfl | (simp only [List.length_drop, List.length_take]; rfl)) ?_; (with_reducible refine (E.calendar_closed_before.calls _ _ t112 (wrap64 (a0 + 1)) t118 _ ?side1 ?side2 A18.out).mono ?_); (case side1 => repeat (first | exact (Kd.R_reads' HO114.out).2.2 | (with_reducible refine Kd.C_alloc ?_ _) | (with_reducible refine Kd.C_drewN ?_ _) | (with_reducible refine Kd.C_drew ?_))); (case side2 => exact (Kd.R_reads' HO114.out).2.1); rintro e w22 ⟨rfl, hb⟩; refine ⟨_, rfl, ?_⟩; have n0_ := Aside0.mk (Kd.R_below (by (with_reducible repeat (first | apply Kd.R_alloc | apply Kd.R_drewN | apply Kd.R_drew)); exact HO114.out) hb); have n1_ := Aside0.mk (below_step (by repeat (first | (with_reducible first | exact HB.out | apply below_alloc | apply pw_below_drewN | apply below_drew1) | exact HB.out)) hb); clear HO114; clear HB; have HO114 := n0_; have HB := n1_; clear n0_ n1_; (try clear hb); (try clear hb2); (try clear hk); (try clear hi)) | ((with_reducible refine gate_callee (f := 67) rfl ?_); refine goesL_ (some 42) rfl rfl Try.func67 (by kernel_rfl) rfl #[.slice Ao21 t112.length co21, .int .i64 (wrap64 ((wrap64 (t118 + a1)) - 1))] rfl (by (try simp only [List.map_toArray, List.map_cons, List.map_nil]); first | done | rfl | (simp only [List.length_drop, List.length_take]; rfl)) ?_; (with_reducible refine (Hw.calendar_closed_nth.calls _ _ t112 (wrap64 ((wrap64 (t118 + a1)) - 1)) t119 t120 _ ?side1 ?side2 A19.out).mono ?_); (case side1 => repeat (first | exact (Kd.R_reads' HO114.out).2.2 | (with_reducible refine Kd.C_alloc ?_ _) | (with_reducible refine Kd.C_drewN ?_ _) | (with_reducible refine Kd.C_drew ?_))); (case side2 => exact (Kd.R_reads' HO114.out).2.1); rintro e w23 ⟨rfl, hb⟩; refine ⟨_, rfl, ?_⟩; have n0_ := Aside0.mk (Kd.R_below (by (with_reducible repeat (first | apply Kd.R_alloc | apply Kd.R_drewN | apply Kd.R_drew)); exact HO114.out) hb); have n1_ := Aside0.mk (below_step (by repeat (first | (with_reducible first | exact HB.out | apply below_alloc | apply pw_below_drewN | apply below_drew1) | exact HB.out)) hb); clear HO114; clear HB; have HO114 := n0_; have HB := n1_; clear n0_ n1_; (try clear hb); (try clear hb2); (try clear hk); (try clear hi)))
            go_ret2
            exact ⟨by first | rfl | (simp [errW_none, errW_some] <;> rfl) | (simp [*, errW_none, errW_some] <;> rfl), by repeat (first | (with_reducible first | exact HB.out | apply below_alloc | apply pw_below_drewN | apply below_drew1) | exact HB.out)⟩

/-! ### insolvencyref1_IsDay: function 69 -/
def insolvencyref1_IsDay.f (a0 : Int) : Option (Bool) := if a0 ≥ 0 then (some (decide (a0 ≤ 1048576))) else (some false)
set_option maxHeartbeats 8000000 in
set_option maxRecDepth 100000 in
theorem insolvencyref1_IsDay.calls (a0 : Int) (r : Bool) (w : World) (h : insolvencyref1_IsDay.f a0 = some r) :
    Calls Try.prog 69 #[.int .i64 a0] w fun e w' => e = .returned (.bool r) ∧ Drawn0 w w' := by
  have H : (if a0 ≥ 0 then (some (decide (a0 ≤ 1048576))) else (some false)) = some r := h
  clear h
  by_cases c2 : a0 ≥ 0
  · rw [if_pos c2] at H
    have c2b0 : decide (0 ≤ a0) = true := decide_eq_true c2
    clear c2
    obtain rfl := Option.some.inj H
    go_enter Try.func69, Try.ntmps69
    go_wp2
    go_ret
    exact ⟨by first | rfl | (simp; done) | (simp [*]; done), by repeat (first | exact Drawn0.refl _ | apply Drawn0.step)⟩
  · rw [if_neg c2] at H
    have c2b0 : decide (0 ≤ a0) = false := decide_eq_false c2
    clear c2
    obtain rfl := Option.some.inj H
    go_enter Try.func69, Try.ntmps69
    go_wp2
    go_ret
    exact ⟨by first | rfl | (simp; done) | (simp [*]; done), by repeat (first | exact Drawn0.refl _ | apply Drawn0.step)⟩

/-! ### insolvencyref1_Weekday: function 87 -/
def insolvencyref1_Weekday.f (a0 : Int) : Option (Int) := if (Int.tmod a0 7) < 0 then (some (wrap64 ((Int.tmod a0 7) + 7))) else (some (Int.tmod a0 7))
set_option maxHeartbeats 8000000 in
set_option maxRecDepth 100000 in
theorem insolvencyref1_Weekday.calls (a0 : Int) (r : Int) (w : World) (h : insolvencyref1_Weekday.f a0 = some r) :
    Calls Try.prog 87 #[.int .i64 a0] w fun e w' => e = .returned (.int .i64 r) ∧ Drawn0 w w' := by
  have H : (if (Int.tmod a0 7) < 0 then (some (wrap64 ((Int.tmod a0 7) + 7))) else (some (Int.tmod a0 7))) = some r := h
  clear h
  by_cases c2 : (Int.tmod a0 7) < 0
  · rw [if_pos c2] at H
    have c2b0 : decide ((Int.tmod a0 7) < 0) = true := decide_eq_true c2
    clear c2
    obtain rfl := Option.some.inj H
    go_enter Try.func87, Try.ntmps87
    go_wp2
    go_ret
    exact ⟨by first | rfl | (simp; done) | (simp [*]; done), by repeat (first | exact Drawn0.refl _ | apply Drawn0.step)⟩
  · rw [if_neg c2] at H
    have c2b0 : decide ((Int.tmod a0 7) < 0) = false := decide_eq_false c2
    clear c2
    obtain rfl := Option.some.inj H
    go_enter Try.func87, Try.ntmps87
    go_wp2
    go_ret
    exact ⟨by first | rfl | (simp; done) | (simp [*]; done), by repeat (first | exact Drawn0.refl _ | apply Drawn0.step)⟩

/-! ### insolvencyref1_has: function 88 -/
def insolvencyref1_has.l0 : Nat → List Int → Int → Int → Option (Bool)
  | 0, _, _, _ => none
  | k + 1, x0, x1, x5 => if x5 < (x0.length : Int) then (if 0 ≤ x5 then (if (rd x0 x5) = x1 then (some true) else (insolvencyref1_has.l0 k x0 x1 (wrap64 (x5 + 1)))) else (none)) else (some false)
def insolvencyref1_has.f (k : Nat) (l0 : List Int) (a1 : Int) : Option (Bool) := insolvencyref1_has.l0 k l0 a1 0
theorem insolvencyref1_has.mono_l : ∀ k, (∀ y0 y1 y2, LeO (insolvencyref1_has.l0 k y0 y1 y2) (insolvencyref1_has.l0 (k + 1) y0 y1 y2))
  | 0 => fun _ _ _ r h => by simp [insolvencyref1_has.l0] at h
  | k + 1 => by
    have ih0 := insolvencyref1_has.mono_l k
    · intro y0 y1 y2
      unfold insolvencyref1_has.l0
      repeat' first
      | (with_reducible exact ih0 _ _ _)
      | (with_reducible exact LeO.refl _)
      | (with_reducible exact LeO.none _)
      | (with_reducible refine LeO.ite ?_ ?_)
      | (with_reducible refine LeO.bind ?_ (fun _ => ?_))
      | exact ih0 _ _ _
      | exact LeO.none _
      | refine LeO.ite ?_ ?_
      | refine LeO.bind ?_ (fun _ => ?_)
theorem insolvencyref1_has.mono : ∀ a0 a1 k, LeO (insolvencyref1_has.f k a0 a1) (insolvencyref1_has.f (k + 1) a0 a1) := by
  intro a0 a1 k
  have ih0 := insolvencyref1_has.mono_l k
  unfold insolvencyref1_has.f
  repeat' first
      | (with_reducible exact ih0 _ _ _)
      | (with_reducible exact LeO.refl _)
      | (with_reducible exact LeO.none _)
      | (with_reducible refine LeO.ite ?_ ?_)
      | (with_reducible refine LeO.bind ?_ (fun _ => ?_))
      | exact ih0 _ _ _
      | exact LeO.none _
      | refine LeO.ite ?_ ?_
      | refine LeO.bind ?_ (fun _ => ?_)
set_option maxHeartbeats 8000000 in
set_option maxRecDepth 100000 in
theorem insolvencyref1_has.calls (k : Nat) (A0 : Option Addr) (c0 : Nat) (l0 : List Int) (a1 : Int) (r : Bool) (w : World) (hr0 : Kd.C (Kd.int .i64) w A0 l0.length l0) (hc0 : l0.length ≤ c0) (h : insolvencyref1_has.f k l0 a1 = some r) :
    Calls Try.prog 88 #[.slice A0 l0.length c0, .int .i64 a1] w fun e w' => e = .returned (.bool r) ∧ Drawn0 w w' := by
  have HR0 := Aside0.mk hr0
  have HC0 := Aside0.mk hc0
  clear hr0 hc0
  have H : (insolvencyref1_has.l0 k l0 a1 0) = some r := h
  clear h
  have H' := Aside0.mk H
  clear H
  go_enter Try.func88, Try.ntmps88
  go_wp2
  go_loopg [5] k (fun kq v5 w' => ∃ (x5_1 : Int), v5 = .int .i64 x5_1 ∧ Aside0 (insolvencyref1_has.l0 kq l0 a1 x5_1 = some r) ∧ Aside0 (kq ≤ k) ∧ Drawn0 w w')
  case atStart => exact ⟨(0), (by first | rfl | (simp; done) | (simp [*]; done)), H', ⟨Nat.le_refl _⟩, by repeat (first | exact Drawn0.refl _ | apply Drawn0.step)⟩
  case round =>
    clear H'
    try clear p2
    obtain ⟨x5_1, rfl, HA, HK1, ⟨m1, rfl⟩⟩ := hrel
    cases gk with
    | zero => exact absurd HA.out (by simp [insolvencyref1_has.l0])
    | succ k1 =>
      have H := HA.out
      clear HA
      simp only [insolvencyref1_has.l0] at H
      by_cases c3 : x5_1 < (l0.length : Int)
      · rw [if_pos c3] at H
        have c3b0 : decide (x5_1 < (l0.length : Int)) = true := decide_eq_true c3
        clear c3
        by_cases c4 : 0 ≤ x5_1
        · rw [if_pos c4] at H
          have c4b0 : decide (0 ≤ x5_1) = true := decide_eq_true c4
          clear c4
          by_cases c5 : (rd l0 x5_1) = a1
          · rw [if_pos c5] at H
            have c5b0 : ((rd l0 x5_1) == a1) = true := beq_iff_eq.mpr c5
            have c5b1 : ((rd l0 x5_1) != a1) = false := bne_eq_false_iff_eq.mpr c5
            clear c5
            obtain rfl := Option.some.inj H
            have p121 : 0 ≤ (x5_1 : Int) := of_decide_eq_true (by first | (with_reducible assumption) | assumption)
            have q121 : x5_1 < (l0.length : Int) := of_decide_eq_true (by first | (with_reducible assumption) | assumption)
            obtain ⟨ad121, e121, hx121_0⟩ := Kd.at_int HR0.out x5_1 p121 q121
            cases e121
            replace p121 := eq_true p121
            replace q121 := eq_true q121
            go_wp2
            go_ret
            exact ⟨by first | rfl | (simp; done) | (simp [*]; done), by repeat (first | exact Drawn0.refl _ | apply Drawn0.step)⟩
          · rw [if_neg c5] at H
            have c5b0 : ((rd l0 x5_1) == a1) = false := beq_eq_false_iff_ne.mpr c5
            have c5b1 : ((rd l0 x5_1) != a1) = true := bne_iff_ne.mpr c5
            have H' := Aside0.mk H
            clear H
            have p121 : 0 ≤ (x5_1 : Int) := of_decide_eq_true (by first | (with_reducible assumption) | assumption)
            have q121 : x5_1 < (l0.length : Int) := of_decide_eq_true (by first | (with_reducible assumption) | assumption)
            obtain ⟨ad121, e121, hx121_0⟩ := Kd.at_int HR0.out x5_1 p121 q121
            cases e121
            replace p121 := eq_true p121
            replace q121 := eq_true q121
            go_wp2
            go_roundg k1
            case measure => have := HK1.out; omega
            case rel => exact ⟨(wrap64 (x5_1 + 1)), (by first | rfl | (simp; done) | (simp [*]; done)), H', ⟨by have := HK1.out; omega⟩, by repeat (first | exact Drawn0.refl _ | apply Drawn0.step)⟩
        · rw [if_neg c4] at H
          exact absurd H (by simp)
      · rw [if_neg c3] at H
        have c3b0 : decide (x5_1 < (l0.length : Int)) = false := decide_eq_false c3
        clear c3
        obtain rfl := Option.some.inj H
        go_wp2
        go_ret
        exact ⟨by first | rfl | (simp; done) | (simp [*]; done), by repeat (first | exact Drawn0.refl _ | apply Drawn0.step)⟩

/-! ### insolvencyref1_IsBusiness: function 70 -/
def insolvencyref1_IsBusiness.f (k : Nat) (a0 : Int) (l1 : List Int) : Option (Bool) := (insolvencyref1_IsDay.f a0).bind fun t122 => (if t122 = true then ((insolvencyref1_Weekday.f a0).bind fun t123 => (if t123 < 5 then ((insolvencyref1_has.f k l1 a0).bind fun t124 => (some (!t124))) else (some false))) else (some false))
theorem insolvencyref1_IsBusiness.mono : ∀ a0 a1 k, LeO (insolvencyref1_IsBusiness.f k a0 a1) (insolvencyref1_IsBusiness.f (k + 1) a0 a1) := by
  intro a0 a1 k
  unfold insolvencyref1_IsBusiness.f
  repeat' first
      | (with_reducible exact insolvencyref1_has.mono _ _ _)
      | (with_reducible exact LeO.refl _)
      | (with_reducible exact LeO.none _)
      | (with_reducible refine LeO.ite ?_ ?_)
      | (with_reducible refine LeO.bind ?_ (fun _ => ?_))
      | exact insolvencyref1_has.mono _ _ _
      | exact LeO.none _
      | refine LeO.ite ?_ ?_
      | refine LeO.bind ?_ (fun _ => ?_)
set_option maxHeartbeats 8000000 in
set_option maxRecDepth 100000 in
theorem insolvencyref1_IsBusiness.calls (k : Nat) (a0 : Int) (A1 : Option Addr) (c1 : Nat) (l1 : List Int) (r : Bool) (w : World) (hr1 : Kd.C (Kd.int .i64) w A1 l1.length l1) (hc1 : l1.length ≤ c1) (h : insolvencyref1_IsBusiness.f k a0 l1 = some r) :
    Calls Try.prog 70 #[.int .i64 a0, .slice A1 l1.length c1] w fun e w' => e = .returned (.bool r) ∧ Drawn0 w w' := by
  have HR1 := Aside0.mk hr1
  have HC1 := Aside0.mk hc1
  clear hr1 hc1
  have H : ((insolvencyref1_IsDay.f a0).bind fun t122 => (if t122 = true then ((insolvencyref1_Weekday.f a0).bind fun t123 => (if t123 < 5 then ((insolvencyref1_has.f k l1 a0).bind fun t124 => (some (!t124))) else (some false))) else (some false))) = some r := h
  clear h
  replace H := Option.bind_eq_some_iff.mp H
  obtain ⟨t122, A30, H⟩ := H
  replace H : (if t122 = true then ((insolvencyref1_Weekday.f a0).bind fun t123 => (if t123 < 5 then ((insolvencyref1_has.f k l1 a0).bind fun t124 => (some (!t124))) else (some false))) else (some false)) = some r := H
  have A3 := Aside0.mk A30
  clear A30
  by_cases c4 : t122 = true
  · subst c4
    have H1 : ((insolvencyref1_Weekday.f a0).bind fun t123 => (if t123 < 5 then ((insolvencyref1_has.f k l1 a0).bind fun t124 => (some (!t124))) else (some false))) = some r := by rw [if_pos rfl] at H; exact H
    clear H
    have H := H1
    clear H1
    replace H := Option.bind_eq_some_iff.mp H
    obtain ⟨t123, A50, H⟩ := H
    replace H : (if t123 < 5 then ((insolvencyref1_has.f k l1 a0).bind fun t124 => (some (!t124))) else (some false)) = some r := H
    have A5 := Aside0.mk A50
    clear A50
    by_cases c6 : t123 < 5
    · rw [if_pos c6] at H
      have c6b0 : decide (t123 < 5) = true := decide_eq_true c6
      clear c6
      replace H := Option.bind_eq_some_iff.mp H
      obtain ⟨t124, A70, H⟩ := H
      replace H : (some (!t124)) = some r := H
      have A7 := Aside0.mk A70
      clear A70
      obtain rfl := Option.some.inj H
      go_enter Try.func70, Try.ntmps70
      go_wp2_with (first | ((with_reducible refine gate_callee (f := 69) rfl ?_); refine goesL_ (some 6) rfl rfl Try.func69 (by kernel_rfl) rfl #[.int .i64 a0] rfl (by (try simp only [List.map_toArray, List.map_cons, List.map_nil]); first | done | rfl | (simp only [List.length_drop, List.length_take]; rfl)) ?_; (with_reducible refine (insolvencyref1_IsDay.calls a0 true _ A3.out).mono ?_); rintro e w' ⟨rfl, ⟨nd, rfl⟩⟩; refine ⟨_, rfl, ?_⟩) | (go_at_call 87; (with_reducible refine (insolvencyref1_Weekday.calls a0 t123 _ A5.out).mono ?_); rintro e w' ⟨rfl, ⟨nd, rfl⟩⟩) | (go_at_call 88; (with_reducible refine (insolvencyref1_has.calls k _ _ l1 a0 t124 _ ?side1 ?side2 A7.out).mono ?_); (case side1 => repeat (first | exact HR1.out | (with_reducible refine Kd.C_alloc ?_ _) | (with_reducible refine Kd.C_drewN ?_ _) | (with_reducible refine Kd.C_drew ?_))); (case side2 => exact HC1.out); rintro e w' ⟨rfl, ⟨nd, rfl⟩⟩))
      go_ret
      exact ⟨by first | rfl | (simp; done) | (simp [*]; done), by repeat (first | exact Drawn0.refl _ | apply Drawn0.step)⟩
    · rw [if_neg c6] at H
      have c6b0 : decide (t123 < 5) = false := decide_eq_false c6
      clear c6
      obtain rfl := Option.some.inj H
      go_enter Try.func70, Try.ntmps70
      go_wp2_with (first | ((with_reducible refine gate_callee (f := 69) rfl ?_); refine goesL_ (some 6) rfl rfl Try.func69 (by kernel_rfl) rfl #[.int .i64 a0] rfl (by (try simp only [List.map_toArray, List.map_cons, List.map_nil]); first | done | rfl | (simp only [List.length_drop, List.length_take]; rfl)) ?_; (with_reducible refine (insolvencyref1_IsDay.calls a0 true _ A3.out).mono ?_); rintro e w' ⟨rfl, ⟨nd, rfl⟩⟩; refine ⟨_, rfl, ?_⟩) | (go_at_call 87; (with_reducible refine (insolvencyref1_Weekday.calls a0 t123 _ A5.out).mono ?_); rintro e w' ⟨rfl, ⟨nd, rfl⟩⟩))
      go_ret
      exact ⟨by first | rfl | (simp; done) | (simp [*]; done), by repeat (first | exact Drawn0.refl _ | apply Drawn0.step)⟩
  · replace c4 := Bool.eq_false_iff.mpr c4
    subst c4
    have H1 : (some false) = some r := by rw [if_neg (show ¬ (false = true) by decide)] at H; exact H
    clear H
    have H := H1
    clear H1
    obtain rfl := Option.some.inj H
    go_enter Try.func70, Try.ntmps70
    go_wp2_with (first | ((with_reducible refine gate_callee (f := 69) rfl ?_); refine goesL_ (some 6) rfl rfl Try.func69 (by kernel_rfl) rfl #[.int .i64 a0] rfl (by (try simp only [List.map_toArray, List.map_cons, List.map_nil]); first | done | rfl | (simp only [List.length_drop, List.length_take]; rfl)) ?_; (with_reducible refine (insolvencyref1_IsDay.calls a0 false _ A3.out).mono ?_); rintro e w' ⟨rfl, ⟨nd, rfl⟩⟩; refine ⟨_, rfl, ?_⟩))
    go_ret
    exact ⟨by first | rfl | (simp; done) | (simp [*]; done), by repeat (first | exact Drawn0.refl _ | apply Drawn0.step)⟩

end Go.Proofs.Ytpfiecjacpbhkaa.F

/- docket.File: what it comes to, by the contracts of Advance, open, find, change and calendar.Add. -/
namespace Go.Proofs.Ytpfiecjacpbhkaa.D
open Go.RowKit Go.Proofs.YtpfiecjacpbhkaaW.PrintWords Go.Proofs.YtpfiecjacpbhkaaW.PrintLast Go.Proofs.YtpfiecjacpbhkaaW.PrintMore
set_option linter.unusedVariables false
set_option linter.unusedSimpArgs false

abbrev Dk := Int × Int × Int × List Int × List S50 × List S52 × Int
def dkErr (e : Int) : Dk := (0, 0, 0, [], [], [], e)
def docket_File.tail (k : Nat) (day ans app : Int) (hs : List Int) (ms : List S50) (rl : List S52) (kind at_ id opt : Int) : Option Dk :=
  if kind < 1 ∨ 6 < kind then some (dkErr 1)
  else if ms.length < 4611686018427387904 then
    if kind = 1 then if (openF ms id).2 = 0 then some (day, ans, app, hs, (openF ms id).1, rl, 0) else some (dkErr (openF ms id).2)
    else if fnd id ms 0 < 0 then some (dkErr 11)
    else if (rd_T50 ms (fnd id ms 0)).f1 ≠ kind - 1 then some (dkErr 13)
    else if (kind = 4 ∨ kind = 6) ∧ (opt < 0 ∨ 4 ≤ opt) then some (dkErr 41)
    else (if kind = 2 ∨ kind = 4 then F.calendar_Add.f k at_ (if kind = 2 then ans else app) hs else some (0, 0)).bind fun ad =>
      if ad.2 ≠ 0 then some (dkErr ad.2)
      else if kind = 6 then if rl.length < 5864062014805 then some (day, ans, app, hs, ms.set (fnd id ms 0).toNat (chgM (rd_T50 ms (fnd id ms 0)) kind ad.1 opt), rl ++ [⟨id, at_, opt⟩], 0) else none
      else some (day, ans, app, hs, ms.set (fnd id ms 0).toNat (chgM (rd_T50 ms (fnd id ms 0)) kind ad.1 opt), rl, 0)
  else none
def docket_File.f (k : Nat) (a0 a1 a2 : Int) (l3 : List Int) (l4 : List S50) (kind at_ id opt : Int) : Option Dk :=
  (docket_Advance.f k a0 a1 a2 l3 l4 at_).bind fun r => if r.2.2.2.2.2.2 = 0 then docket_File.tail k r.1 r.2.1 r.2.2.1 r.2.2.2.1 r.2.2.2.2.1 r.2.2.2.2.2.1 kind at_ id opt else some (dkErr r.2.2.2.2.2.2)
theorem docket_File.mono : ∀ a0 a1 a2 a3 a4 a5 a6 a7 a8 k, LeO (docket_File.f k a0 a1 a2 a3 a4 a5 a6 a7 a8) (docket_File.f (k + 1) a0 a1 a2 a3 a4 a5 a6 a7 a8) := by
  intro a0 a1 a2 a3 a4 a5 a6 a7 a8 k
  unfold docket_File.f docket_File.tail
  repeat' first
  | (with_reducible exact docket_Advance.mono _ _ _ _ _ _ _)
  | (with_reducible exact F.calendar_Add.mono _ _ _ _)
  | (with_reducible exact LeO.refl _)
  | (with_reducible exact LeO.none _)
  | (with_reducible refine LeO.ite ?_ ?_)
  | (with_reducible refine LeO.bind ?_ (fun _ => ?_))

def filWorld (w : World) (d a p : Int) (v u : Value) (kind day id opt : Int) : World :=
  ((w.alloc (.cells #[.int .i64 d, .int .i64 a, .int .i64 p, v, u] 30 (0, 0))).alloc (.cells #[.int .i64 kind, .int .i64 day, .int .i64 id, .int .i64 opt] 47 (0, 0))).alloc
    (.cells #[.int .i64 0, .int .i64 0, .int .i64 0, .slice none 0 0, .slice none 0 0] 30 (0, 0))
theorem fil_below (w : World) (d a p : Int) (v u : Value) (kind day id opt : Int) : Below w.heap.size w (filWorld w d a p v u kind day id opt) := by
  unfold filWorld
  exact below_alloc (below_alloc (below_alloc (Below.refl _ _) _) _) _
theorem fil_dk (w : World) (d a p : Int) (v u : Value) (kind day id opt : Int) : (filWorld w d a p v u kind day id opt).heap[w.heap.size]? = some (.cells #[.int .i64 d, .int .i64 a, .int .i64 p, v, u] 30 (0, 0)) :=
  blk_alloc (blk_alloc (blk_new w _) _) _
theorem fil_file (w : World) (d a p : Int) (v u : Value) (kind day id opt : Int) : (filWorld w d a p v u kind day id opt).heap[w.heap.size + 1]? = some (.cells #[.int .i64 kind, .int .i64 day, .int .i64 id, .int .i64 opt] 47 (0, 0)) := by
  have := blk_new (w.alloc (.cells #[.int .i64 d, .int .i64 a, .int .i64 p, v, u] 30 (0, 0))) (.cells #[.int .i64 kind, .int .i64 day, .int .i64 id, .int .i64 opt] 47 (0, 0))
  exact blk_alloc (by simpa using this) _
theorem fil_res (w : World) (d a p : Int) (v u : Value) (kind day id opt : Int) : (filWorld w d a p v u kind day id opt).heap[w.heap.size + 1 + 1]? = some (.cells #[.int .i64 0, .int .i64 0, .int .i64 0, .slice none 0 0, .slice none 0 0] 30 (0, 0)) := by
  have := blk_new ((w.alloc (.cells #[.int .i64 d, .int .i64 a, .int .i64 p, v, u] 30 (0, 0))).alloc (.cells #[.int .i64 kind, .int .i64 day, .int .i64 id, .int .i64 opt] 47 (0, 0))) (.cells #[.int .i64 0, .int .i64 0, .int .i64 0, .slice none 0 0, .slice none 0 0] 30 (0, 0))
  simpa [filWorld] using this

/-- The five stores into the result's block. -/
def five (V : World) (g : Nat) (a b c d e : Value) : World := ((((V.setCell ⟨g, 0, none⟩ a).setCell ⟨g, 1, none⟩ b).setCell ⟨g, 2, none⟩ c).setCell ⟨g, 3, none⟩ d).setCell ⟨g, 4, none⟩ e
theorem five_blk {V : World} {g t : Nat} {a0 b0 c0 d0 e0 : Value} (h : V.heap[g]? = some (.cells #[a0, b0, c0, d0, e0] t (0, 0))) (a b c d e : Value) : (five V g a b c d e).heap[g]? = some (.cells #[a, b, c, d, e] t (0, 0)) :=
  blk_put (blk_put (blk_put (blk_put (blk_put h 0 _ rfl) 1 _ rfl) 2 _ rfl) 3 _ rfl) 4 _ rfl
theorem five_R {α : Type} {K : Kd α} {ty base g t : Nat} {ok : Nat → Prop} {V : World} {v : Value} {xs : List α} {a0 b0 c0 d0 e0 : Value} (h : K.R ty V base ok v xs) (hb : V.heap[g]? = some (.cells #[a0, b0, c0, d0, e0] t (0, 0))) (ht : ∀ q, q ∈ ty :: K.E → q ≠ t) (a b c d e : Value) : K.R ty (five V g a b c d e) base ok v xs := by
  unfold five
  have b1 := blk_put hb 0 a rfl
  have b2 := blk_put b1 1 b rfl
  have b3 := blk_put b2 2 c rfl
  have b4 := blk_put b3 3 d rfl
  exact Kd.R_set (Kd.R_set (Kd.R_set (Kd.R_set (Kd.R_set h hb ht 0 a) b1 ht 1 b) b2 ht 2 c) b3 ht 3 d) b4 ht 4 e
theorem five_below {W V : World} {n g : Nat} (h : Below n W V) (hg : n ≤ g) (a b c d e : Value) : Below n W (five V g a b c d e) := ((((h.setCell hg _).setCell hg _).setCell hg _).setCell hg _).setCell hg _

/-- What is asked of the end: the results' rows. -/
def FileEnd (w : World) (r : Dk) (e : Ending) (w' : World) : Prop := ∃ v3_ v4_ v5_ : Value, e = .returned (.tuple #[.agg #[.int .i64 r.1, .int .i64 r.2.1, .int .i64 r.2.2.1, v3_, v4_], v5_, .int .i64 r.2.2.2.2.2.2]) ∧
  Kd.R (Kd.int .i64) 3 w' w.heap.size (fun _ => True) v3_ r.2.2.2.1 ∧ Kd.R k50 50 w' w.heap.size (fun _ => True) v4_ r.2.2.2.2.1 ∧ Kd.R k52 52 w' w.heap.size (fun _ => True) v5_ r.2.2.2.2.2.1 ∧ Below w.heap.size w w'
theorem end_err (w V : World) (g : Nat) (e : Int) (hb : Below w.heap.size w V) (hg : w.heap.size ≤ g) : FileEnd w (dkErr e) (.returned (.tuple #[.agg #[.int .i64 0, .int .i64 0, .int .i64 0, .slice none 0 0, .slice none 0 0], .slice none 0 0, .int .i64 e])) (five V g (.int .i64 0) (.int .i64 0) (.int .i64 0) (.slice none 0 0) (.slice none 0 0)) :=
  ⟨_, _, _, rfl, Kd.R_nil _ _ _ _ _, Kd.R_nil _ _ _ _ _, Kd.R_nil _ _ _ _ _, five_below hb hg _ _ _ _ _⟩
theorem end_ok (w V : World) (g : Nat) (d a p : Int) (hs : List Int) (ms : List S50) (rl : List S52) (v u x : Value) (z : Array Value) (hb : Below w.heap.size w V) (hg : w.heap.size ≤ g)
    (hz : V.heap[g]? = some (.cells #[.int .i64 0, .int .i64 0, .int .i64 0, .slice none 0 0, .slice none 0 0] 30 (0, 0)))
    (h3 : Kd.R (Kd.int .i64) 3 V w.heap.size (fun _ => True) v hs) (h4 : Kd.R k50 50 V w.heap.size (fun _ => True) u ms) (h5 : Kd.R k52 52 V w.heap.size (fun _ => True) x rl) :
    FileEnd w (d, a, p, hs, ms, rl, 0) (.returned (.tuple #[.agg #[.int .i64 d, .int .i64 a, .int .i64 p, v, u], x, .int .i64 0])) (five V g (.int .i64 d) (.int .i64 a) (.int .i64 p) v u) :=
  ⟨_, _, _, rfl, five_R h3 hz (by decide) _ _ _ _ _, five_R h4 hz (by decide) _ _ _ _ _, five_R h5 hz (by decide) _ _ _ _ _, five_below hb hg _ _ _ _ _⟩
theorem R_keep2 {α : Type} {K : Kd α} {ty base g t t2 : Nat} {ok : Nat → Prop} {W w1 : World} {v u : Value} {xs : List α} {cells : Array Value} (h : K.R ty W base ok v xs) (hsame : ∀ k, k < W.heap.size → k ≠ g → some k ≠ u.ownBlock → w1.heap[k]? = W.heap[k]?)
    (hb : W.heap[g]? = some (.cells cells t (0, 0))) (ht : ∀ q, q ∈ ty :: K.E → q ≠ t) (hu : ∀ k, u.ownBlock = some k → ∃ cells, W.heap[k]? = some (.cells cells t2 (0, 0))) (ht2 : ∀ q, q ∈ ty :: K.E → q ≠ t2) : K.R ty w1 base ok v xs := by
  refine Kd.R_mono (Kd.R_step (Kd.R_bound h) (fun k hk hlt => hsame k hlt ?_ ?_)) (fun _ hk => hk.1)
  · rintro rfl
    obtain ⟨_, _, _, q, hq, cs, hc⟩ := hk
    rw [hb] at hc
    injection hc with hc
    injection hc with _ hc
    exact ht q hq hc.symm
  · intro he
    obtain ⟨cs2, hc2⟩ := hu k he.symm
    obtain ⟨_, _, _, q, hq, cs, hc⟩ := hk
    rw [hc2] at hc
    injection hc with hc
    injection hc with _ hc
    exact ht2 q hq hc.symm

theorem fnd_lt (x : Int) : ∀ (l : List S50) (i : Nat), fnd x l i < (i : Int) + l.length ∧ (fnd x l i < 0 → fnd x l i = -1)
  | [], i => by simp [fnd]; omega
  | y :: r, i => by
    unfold fnd
    have := fnd_lt x r (i + 1)
    split
    · simp only [List.length_cons]; omega
    · simp only [List.length_cons] at *; omega

set_option maxHeartbeats 16000000 in
set_option maxRecDepth 100000 in
theorem file_walk (k : Nat) (d a p : Int) (v u : Value) (kind day id opt : Int) (r : Dk) (r' : Dk) (w : World)
    (hA : Calls Try.prog 13 #[.agg #[.int .i64 d, .int .i64 a, .int .i64 p, v, u], .int .i64 day] (filWorld w d a p v u kind day id opt) (FileEnd (filWorld w d a p v u kind day id opt) r))
    (h : (if r.2.2.2.2.2.2 = 0 then docket_File.tail k r.1 r.2.1 r.2.2.1 r.2.2.2.1 r.2.2.2.2.1 r.2.2.2.2.2.1 kind day id opt else some (dkErr r.2.2.2.2.2.2)) = some r') :
    Calls Try.prog 20 #[.agg #[.int .i64 d, .int .i64 a, .int .i64 p, v, u], .agg #[.int .i64 kind, .int .i64 day, .int .i64 id, .int .i64 opt]] w (FileEnd w r') := by
  have hu := Try.underlying47
  have hu2 := Try.underlying27
  have hu3 := Try.underlying30
  have hu4 := Try.underlying28
  have B0 := fil_below w d a p v u kind day id opt
  have K2 := fil_res w d a p v u kind day id opt
  have K1 := fil_file w d a p v u kind day id opt
  obtain ⟨r1, r2, r3, hs, ms, rl, r7⟩ := r
  go_enter Try.func20, Try.ntmps20
  go_upto_region 2 with (go_at_call 13; change Calls _ _ _ (filWorld w d a p v u kind day id opt) _; refine hA.mono ?_; rintro e w1 ⟨v3, v4, v5, rfl, h3, h4, h5, hb⟩; have K3 := blk_below K2 hb; have K4 := blk_below K1 hb; obtain ⟨A3, c3, rfl⟩ := Kd.R_slice h3; obtain ⟨A4, c4, rfl⟩ := Kd.R_slice h4; obtain ⟨A5, c5, rfl⟩ := Kd.R_slice h5)
  change Code.wp _ _ _ _ (w1.alloc (.cells #[.int .i64 r1, .int .i64 r2, .int .i64 r3, .slice A3 hs.length c3, .slice A4 ms.length c4] 30 (0, 0)))
  have KO := blk_new w1 (.cells #[.int .i64 r1, .int .i64 r2, .int .i64 r3, .slice A3 hs.length c3, .slice A4 ms.length c4] 30 (0, 0))
  have KZ := blk_alloc K3 (.cells #[.int .i64 r1, .int .i64 r2, .int .i64 r3, .slice A3 hs.length c3, .slice A4 ms.length c4] 30 (0, 0))
  have KF := blk_alloc K4 (.cells #[.int .i64 r1, .int .i64 r2, .int .i64 r3, .slice A3 hs.length c3, .slice A4 ms.length c4] 30 (0, 0))
  have R3 := Kd.R_alloc (Kd.R_lower h3 B0.size) (.cells #[.int .i64 r1, .int .i64 r2, .int .i64 r3, .slice A3 hs.length c3, .slice A4 ms.length c4] 30 (0, 0))
  have R4 := Kd.R_alloc (Kd.R_lower h4 B0.size) (.cells #[.int .i64 r1, .int .i64 r2, .int .i64 r3, .slice A3 hs.length c3, .slice A4 ms.length c4] 30 (0, 0))
  have R5 := Kd.R_alloc (Kd.R_lower h5 B0.size) (.cells #[.int .i64 r1, .int .i64 r2, .int .i64 r3, .slice A3 hs.length c3, .slice A4 ms.length c4] 30 (0, 0))
  have BW := below_alloc (below_step B0 hb) (.cells #[.int .i64 r1, .int .i64 r2, .int .i64 r3, .slice A3 hs.length c3, .slice A4 ms.length c4] 30 (0, 0))
  have n1 : w1.heap.size ≠ w.heap.size + 1 + 1 := Nat.ne_of_gt (blk_lt K3)
  have n2 : w1.heap.size ≠ w.heap.size + 1 := Nat.ne_of_gt (blk_lt K4)
  have n3 : w.heap.size + 1 ≠ w.heap.size + 1 + 1 := by omega
  have n4 : w.heap.size ≤ w.heap.size + 1 + 1 := by omega
  have n5 : w.heap.size ≤ w1.heap.size := Nat.le_trans n4 (Nat.le_of_lt (blk_lt K3))
  generalize w1.alloc (.cells #[.int .i64 r1, .int .i64 r2, .int .i64 r3, .slice A3 hs.length c3, .slice A4 ms.length c4] 30 (0, 0)) = W2 at *
  generalize w1.heap.size = gO at *
  generalize w.heap.size + 1 + 1 = gZ at *
  generalize w.heap.size + 1 = gB at *
  clear K1 K2 K3 K4 h3 h4 h5 hb hA B0 w1
  obtain ⟨z0, z1, z2, z3, z4⟩ := cells5 ⟨KZ⟩
  obtain ⟨x0, x1, x2, x3, x4⟩ := frz5 ⟨KZ⟩
  by_cases he : r7 = 0
  · rw [if_pos he] at h
    subst he
    obtain ⟨f0, f1, f2, f3⟩ := cells4 ⟨KF⟩
    obtain ⟨o0, o1, o2, o3, o4⟩ := cells5 ⟨KO⟩
    unfold docket_File.tail at h
    by_cases hk : kind < 1 ∨ 6 < kind
    · rw [if_pos hk] at h
      obtain rfl := Option.some.inj h
      clear h
      by_cases h1 : kind < 1
      · have e1 : decide (kind < 1) = true := decide_eq_true h1
        clear hk h1
        go_wp2
        refine bodyPost_ret (results_ctt rfl _ _ gZ 30 _ (0, 0) _ rfl (five_blk KZ _ _ _ _ _) Try.underlying30 rfl (by kernel_rfl)) rfl ?_
        exact end_err _ _ _ _ BW n4
      · have e1 : decide (kind < 1) = false := decide_eq_false h1
        have e2 : decide (6 < kind) = true := decide_eq_true (by omega)
        clear hk h1
        go_wp2
        refine bodyPost_ret (results_ctt rfl _ _ gZ 30 _ (0, 0) _ rfl (five_blk KZ _ _ _ _ _) Try.underlying30 rfl (by kernel_rfl)) rfl ?_
        exact end_err _ _ _ _ BW n4
    rw [if_neg hk] at h
    have e1 : decide (kind < 1) = false := decide_eq_false (by omega)
    have e2 : decide (6 < kind) = false := decide_eq_false (by omega)
    have hC := (Kd.R_reads' R4).2
    by_cases hl : ms.length < 4611686018427387904
    case neg => rw [if_neg hl] at h; cases h
    rw [if_pos hl] at h
    by_cases hk1 : kind = 1
    · rw [if_pos hk1] at h
      subst hk1
      by_cases ho : (openF ms id).2 = 0
      · rw [if_pos ho] at h
        obtain rfl := Option.some.inj h
        have hop := open_ok gO r1 r2 r3 (.slice A3 hs.length c3) (.slice A4 ms.length c4) ms id w W2 BW n5 KO R4 ho
        clear h hk e1 e2 ho hl hC
        go_wp2_with (go_at_call 36; refine hop.mono ?_; rintro e w3 ⟨u3, rfl, KO3, R43, B3, hsame⟩; have nz := Kd.R_ne R4 KZ (by decide); have nf := Kd.R_ne R4 KF (by decide); have KZ3 := (hsame gZ (blk_lt KZ) (Ne.symm n1) nz).trans KZ; have KF3 := (hsame gB (blk_lt KF) (Ne.symm n2) nf).trans KF; have R33 := R_keep2 R3 hsame KO (by decide) (Kd.R_typed R4) (by decide); have R53 := R_keep2 R5 hsame KO (by decide) (Kd.R_typed R4) (by decide); obtain ⟨z0, z1, z2, z3, z4⟩ := cells5 ⟨KZ3⟩; obtain ⟨x0, x1, x2, x3, x4⟩ := frz5 ⟨KZ3⟩; obtain ⟨o0, o1, o2, o3, o4⟩ := cells5 ⟨KO3⟩; obtain ⟨f0, f1, f2, f3⟩ := cells4 ⟨KF3⟩; obtain ⟨A43, c43, rfl⟩ := Kd.R_slice R43)
        refine bodyPost_ret (results_ctt rfl _ _ gZ 30 _ (0, 0) _ rfl (five_blk KZ3 _ _ _ _ _) Try.underlying30 rfl (by kernel_rfl)) rfl ?_
        exact end_ok _ _ _ _ _ _ _ _ _ _ _ _ #[] B3 n4 KZ3 R33 R43 R53
      · rw [if_neg ho] at h
        obtain rfl := Option.some.inj h
        have hop := open_err gO r1 r2 r3 (.slice A3 hs.length c3) A4 c4 ms id W2 hC.1 hl KO hC.2 ho
        have he2 : ((openF ms id).2 != 0) = true := by simpa using ho
        clear h hk e1 e2 ho hl hC
        generalize (openF ms id).2 = eo at *
        go_wp2_with (go_at_call 36; refine hop.mono ?_; rintro e w3 ⟨rfl, B3⟩; have KZ3 := blk_below KZ B3; obtain ⟨z0, z1, z2, z3, z4⟩ := cells5 ⟨KZ3⟩; obtain ⟨x0, x1, x2, x3, x4⟩ := frz5 ⟨KZ3⟩)
        refine bodyPost_ret (results_ctt rfl _ _ gZ 30 _ (0, 0) _ rfl (five_blk KZ3 _ _ _ _ _) Try.underlying30 rfl (by kernel_rfl)) rfl ?_
        exact end_err _ _ _ _ (below_step BW B3) n4
    rw [if_neg hk1] at h
    have e3 : (kind == 1) = false := by simpa using hk1
    have hf := docket_find.calls A4 c4 ms id (fnd id ms 0) W2 hC.2 hC.1 (by unfold docket_find.f; rw [if_pos hl])
    have hq := fnd_lt id ms 0
    generalize fnd id ms 0 = q at *
    by_cases hq0 : q < 0
    · rw [if_pos hq0] at h
      obtain rfl := Option.some.inj h
      have e4 : decide (q < 0) = true := decide_eq_true hq0
      clear h hk hk1 hl hC hq hq0
      go_wp2_with (go_at_call 37; refine hf.mono ?_; rintro e w3 ⟨rfl, B3⟩; have KZ3 := blk_below KZ B3; obtain ⟨z0, z1, z2, z3, z4⟩ := cells5 ⟨KZ3⟩; obtain ⟨x0, x1, x2, x3, x4⟩ := frz5 ⟨KZ3⟩)
      refine bodyPost_ret (results_ctt rfl _ _ gZ 30 _ (0, 0) _ rfl (five_blk KZ3 _ _ _ _ _) Try.underlying30 rfl (by kernel_rfl)) rfl ?_
      exact end_err _ _ _ _ (below_step BW B3) n4
    rw [if_neg hq0] at h
    have e4 : decide (q < 0) = false := decide_eq_false hq0
    have hqn : q < (ms.length : Int) := by omega
    have hq1 : 0 ≤ q := by omega
    have p1 : (0 ≤ q) = True := eq_true hq1
    have p2 : (q < (ms.length : Int)) = True := eq_true hqn
    obtain ⟨g4, c4', eq4, -, hg4, -⟩ := Kd.R_form R4 (by omega)
    injection eq4 with eA _ eC
    subst eA
    subst eC
    clear hq hq0 hC hl
    have hch : ∀ W, Below W2.heap.size W2 W → Calls Try.prog 38 #[.pointer (some ⟨g4, q.toNat * 5, none⟩), .agg #[.int .i64 kind, .int .i64 day, .int .i64 id, .int .i64 opt], .agg #[.int .i64 r2, .int .i64 r3, .slice A3 hs.length c3]] W fun e w' => ∃ c, e = .returned (.int .i64 c) ∧ (∀ k, k < W.heap.size → k ≠ g4 → w'.heap[k]? = W.heap[k]?) ∧
        (c ≠ 0 ∧ r' = dkErr c ∧ Below W.heap.size W w' ∨ c = 0 ∧ ∃ x, r' = (r1, r2, r3, hs, ms.set q.toNat x, if kind = 6 then rl ++ [⟨id, day, opt⟩] else rl, 0) ∧ (kind = 6 → rl.length < 5864062014805) ∧
          Kd.R k50 50 w' w.heap.size (fun _ => True) (.slice (some ⟨g4, 0, none⟩) ms.length c4) (ms.set q.toNat x) ∧ Below w.heap.size w w') := by
      intro W hW
      have R4W := Kd.R_below R4 hW
      have hc := (elm R4W q hq1 hqn _ rfl).1
      by_cases hst : (rd_T50 ms q).f1 = kind - 1
      case neg =>
        rw [if_pos hst] at h
        obtain rfl := Option.some.inj h
        refine (change_state g4 (q.toNat * 5) kind day id opt r2 r3 _ (.slice A3 hs.length c3) W (by omega) hc hst).mono ?_
        rintro e w' ⟨rfl, hb⟩
        exact ⟨13, rfl, fun k hk _ => hb.block k hk, .inl ⟨by decide, rfl, hb⟩⟩
      rw [if_neg (fun hn => hn hst)] at h
      rw [hst] at hc
      by_cases hop : (kind = 4 ∨ kind = 6) ∧ (opt < 0 ∨ 4 ≤ opt)
      · rw [if_pos hop] at h
        obtain rfl := Option.some.inj h
        refine (change_opt g4 (q.toNat * 5) kind day id opt r2 r3 (.slice A3 hs.length c3) W hop.1 hop.2 hc).mono ?_
        rintro e w' ⟨rfl, hb⟩
        exact ⟨41, rfl, fun k hk _ => hb.block k hk, .inl ⟨by decide, rfl, hb⟩⟩
      rw [if_neg hop] at h
      obtain ⟨ad, had, h⟩ := Option.bind_eq_some_iff.mp h
      have hCh := (Kd.R_reads' R3).2
      have hAdd : kind = 2 ∨ kind = 4 → AddAt W day (if kind = 2 then r2 else r3) (.slice A3 hs.length c3) ad := by
        intro h24 W1 hW1
        rw [if_pos h24] at had
        exact F.calendar_Add.calls k day (if kind = 2 then r2 else r3) A3 c3 hs ad.1 ad.2 W1 (Kd.C_below (Kd.C_below hCh.2 hW) hW1) hCh.1 had
      by_cases ha : ad.2 ≠ 0
      · rw [if_pos ha] at h
        obtain rfl := Option.some.inj h
        have h24 : kind = 2 ∨ kind = 4 := by
          by_cases hh : kind = 2 ∨ kind = 4
          · exact hh
          · rw [if_neg hh] at had
            obtain rfl := Option.some.inj had
            exact absurd rfl ha
        refine (change_add g4 (q.toNat * 5) kind day id opt r2 r3 (.slice A3 hs.length c3) ad W (by omega) hc (hAdd h24) ha).mono ?_
        rintro e w' ⟨rfl, hb⟩
        exact ⟨ad.2, rfl, fun k hk _ => hb.block k hk, .inl ⟨ha, rfl, hb⟩⟩
      rw [if_neg ha] at h
      have ha0 : ad.2 = 0 := by omega
      have hA2 : if kind = 2 ∨ kind = 4 then AddAt W day (if kind = 2 then r2 else r3) (.slice A3 hs.length c3) ad else ad = (0, 0) := by
        by_cases hh : kind = 2 ∨ kind = 4
        · rw [if_pos hh]; exact hAdd hh
        · rw [if_neg hh] at had ⊢
          exact (Option.some.inj had).symm
      refine (change_ok g4 q c4 ms (fun _ => True) kind day id opt r2 r3 (.slice A3 hs.length c3) ad w W (below_step BW hW) hq1 hqn (by omega) hst R4W hA2 ha0).mono ?_
      rintro e w' ⟨rfl, hR, hB, hs2⟩
      by_cases h6 : kind = 6
      · rw [if_pos h6] at h
        by_cases hrl : rl.length < 5864062014805
        · rw [if_pos hrl] at h
          obtain rfl := Option.some.inj h
          exact ⟨0, rfl, hs2, .inr ⟨rfl, _, by rw [if_pos h6], fun _ => hrl, hR, hB⟩⟩
        · rw [if_neg hrl] at h; cases h
      · rw [if_neg h6] at h
        obtain rfl := Option.some.inj h
        exact ⟨0, rfl, hs2, .inr ⟨rfl, _, by rw [if_neg h6], fun h => absurd h h6, hR, hB⟩⟩
    clear h hk hk1
    go_upto_region 7 with (go_at_call 37; refine hf.mono ?_; rintro e w3 ⟨rfl, B3⟩)
    have KZ3 := blk_below KZ B3
    have KF3 := blk_below KF B3
    have KO3 := blk_below KO B3
    have R33 := Kd.R_below R3 B3
    have R43 := Kd.R_below R4 B3
    have R53 := Kd.R_below R5 B3
    have hcal := hch w3.drew (below_drew1 B3)
    clear hch f0 f1 f2 f3 o0 o1 o2 o3 o4 z0 z1 z2 z3 z4 x0 x1 x2 x3 x4
    obtain ⟨f0, f1, f2, f3⟩ := cells4 ⟨KF3⟩
    obtain ⟨o0, o1, o2, o3, o4⟩ := cells5 ⟨KO3⟩
    have nF : gB ≠ g4 := fun he => Kd.R_ne R4 KF (by decide) (by rw [he]; simp [Value.ownBlock])
    have nO : gO ≠ g4 := fun he => Kd.R_ne R4 KO (by decide) (by rw [he]; simp [Value.ownBlock])
    have nZ : gZ ≠ g4 := fun he => Kd.R_ne R4 KZ (by decide) (by rw [he]; simp [Value.ownBlock])
    go_region_held3 (fun w_ => w_.cell? ⟨gB, 0, none⟩ = some (.int .i64 kind) ∧ w_.cell? ⟨gB, 1, none⟩ = some (.int .i64 day) ∧ w_.cell? ⟨gB, 2, none⟩ = some (.int .i64 id) ∧ w_.cell? ⟨gB, 3, none⟩ = some (.int .i64 opt) ∧ w_.cell? ⟨gO, 1, none⟩ = some (.int .i64 r2) ∧ w_.cell? ⟨gO, 2, none⟩ = some (.int .i64 r3) ∧ w_.cell? ⟨gO, 3, none⟩ = some (.slice A3 hs.length c3) ∧ w_.cell? ⟨gO, 4, none⟩ = some (.slice (some ⟨g4, 0, none⟩) ms.length c4)) (first | exact ⟨f0, f1, f2, f3, o1, o2, o3, o4⟩ | exact ⟨f0', f1', f2', f3', o1', o2', o3', o4'⟩ | go_keep)
      (first | (go_at_call 38; refine hcal.mono ?_; rintro e w4 ⟨c, rfl, hs4, hcc⟩; have KF4 := (hs4 gB (blk_lt (blk_drew KF3)) nF).trans (blk_drew KF3); have KO4 := (hs4 gO (blk_lt (blk_drew KO3)) nO).trans (blk_drew KO3); have KZ4 := (hs4 gZ (blk_lt (blk_drew KZ3)) nZ).trans (blk_drew KZ3); obtain ⟨f0', f1', f2', f3'⟩ := cells4 ⟨KF4⟩; obtain ⟨o0', o1', o2', o3', o4'⟩ := cells5 ⟨KO4⟩))
    obtain ⟨z0, z1, z2, z3, z4⟩ := cells5 ⟨KZ4⟩
    obtain ⟨x0, x1, x2, x3, x4⟩ := frz5 ⟨KZ4⟩
    clear f0 f1 f2 f3 o0 o1 o2 o3 o4 p1 p2
    rcases hcc with ⟨hc0, rfl, hb4⟩ | ⟨rfl, x, hr', hrl, R44, B4⟩
    · have he2 : (c != 0) = true := by simpa using hc0
      clear hc0
      go_wp2
      refine bodyPost_ret (results_ctt rfl _ _ gZ 30 _ (0, 0) _ rfl (five_blk KZ4 _ _ _ _ _) Try.underlying30 rfl (by kernel_rfl)) rfl ?_
      exact end_err _ _ _ _ (below_step (below_drew1 (below_step BW B3)) hb4) n4
    obtain ⟨gc, hgc⟩ := Kd.R_typed (Kd.R_drew R43) g4 (by simp [Value.ownBlock])
    have R34 := R_keep2 (u := .slice none 0 0) (t2 := 0) (Kd.R_drew R33) (fun k h1 h2 _ => hs4 k h1 h2) hgc (by decide) (fun k hk => by simp [Value.ownBlock] at hk) (by decide)
    have R54 := R_keep2 (u := .slice none 0 0) (t2 := 0) (Kd.R_drew R53) (fun k h1 h2 _ => hs4 k h1 h2) hgc (by decide) (fun k hk => by simp [Value.ownBlock] at hk) (by decide)
    by_cases h6 : kind = 6
    · subst h6
      rw [if_pos rfl] at hr'
      subst hr'
      have hrl := hrl rfl
      have NF := Kd.R_ne R54 KF4 (by decide)
      have NO := Kd.R_ne R54 KO4 (by decide)
      have NZ := Kd.R_ne R54 KZ4 (by decide)
      go_wp2_with (first | ((with_reducible refine gate_builtin (b := .append) (xs := #[.tmp 62, .tmp 70]) rfl ?_); at_builtin; refine Kd.R_append k52 (w0 := w) w.heap.size rfl (.tmp 62) (.tmp 70) 32 52 (.agg #[(.int .i64 0), (.int .i64 0), (.int .i64 0)]) 24 rfl Try.underlying32 info52 rfl (by decide) (by omega) _ rl (⟨id, day, opt⟩ : S52) [.int .i64 id, .int .i64 day, .int .i64 opt] (fun _ => True) (fun _ => False) rfl rfl ?aP (fun _ hk => hk.elim) ?aF ?aO ?aB ?aS ?aL ?_; (case aP => exact k52_mkM _ _ _ (⟨id, day, opt⟩ : S52)); (case aB => exact B4); (case aF => exact (fun _ _ => trivial)); (case aO => exact R54); (case aS => exact B4.size); (case aL => omega); intro v5 w5 ho5 hb5 hgr hat; change w4.grownBy w5 (Value.slice A5 rl.length c5).ownBlock at hgr; obtain ⟨A6, c6, rfl⟩ := Kd.R_slice ho5; have KZ5 := blk_grown KZ4 hgr NZ; have KO5 := blk_grown KO4 hgr NO; obtain ⟨z0, z1, z2, z3, z4⟩ := cells5 ⟨KZ5⟩; obtain ⟨x0, x1, x2, x3, x4⟩ := frz5 ⟨KZ5⟩; obtain ⟨o0', o1', o2', o3', o4'⟩ := cells5 ⟨KO5⟩))
      refine bodyPost_ret (results_ctt rfl _ _ gZ 30 _ (0, 0) _ rfl (five_blk KZ5 _ _ _ _ _) Try.underlying30 rfl (by kernel_rfl)) rfl ?_
      simp only [List.length_append, List.length_cons, List.length_nil, Nat.zero_add] at ho5
      have R35 := Kd.R_over' (v := .slice A5 rl.length c5) R34 (Kd.R_typed R54) (by decide) hgr
      have R45 := Kd.R_over' (v := .slice A5 rl.length c5) R44 (Kd.R_typed R54) (by decide) hgr
      exact end_ok _ _ _ _ _ _ _ _ _ _ _ _ #[] hb5 n4 KZ5 R35 R45 (Kd.R_mono ho5 (fun _ _ => trivial))
    · have e6 : (kind == 6) = false := by simpa using h6
      rw [if_neg h6] at hr'
      subst hr'
      clear h6 hrl
      go_wp2
      refine bodyPost_ret (results_ctt rfl _ _ gZ 30 _ (0, 0) _ rfl (five_blk KZ4 _ _ _ _ _) Try.underlying30 rfl (by kernel_rfl)) rfl ?_
      exact end_ok _ _ _ _ _ _ _ _ _ _ _ _ #[] B4 n4 KZ4 R34 R44 R54
  · rw [if_neg he] at h
    obtain rfl := Option.some.inj h
    have he2 : (r7 != 0) = true := by simpa using he
    clear he h
    go_wp2
    refine bodyPost_ret (results_ctt rfl _ _ gZ 30 _ (0, 0) _ rfl (five_blk KZ _ _ _ _ _) Try.underlying30 rfl (by kernel_rfl)) rfl ?_
    exact end_err _ _ _ _ BW n4

theorem docket_File.calls (k : Nat) (a0_0 : Int) (a0_1 : Int) (a0_2 : Int) (A0_3 : Option Addr) (c0_3 : Nat) (l0_3 : List Int) (A0_4 : Option Addr) (c0_4 : Nat) (l0_4 : List S50) (a1_0 a1_1 a1_2 a1_3 : Int) (r1 : Int) (r2 : Int) (r3 : Int) (r4 : List Int) (r5 : List S50) (r6 : List S52) (r7 : Int) (w : World) (hr0_3 : Kd.C (Kd.int .i64) w A0_3 l0_3.length l0_3) (hc0_3 : l0_3.length ≤ c0_3) (hr0_4 : Kd.C k50 w A0_4 l0_4.length l0_4) (hc0_4 : l0_4.length ≤ c0_4) (h : docket_File.f k a0_0 a0_1 a0_2 l0_3 l0_4 a1_0 a1_1 a1_2 a1_3 = some (r1, r2, r3, r4, r5, r6, r7)) :
    Calls Try.prog 20 #[.agg #[.int .i64 a0_0, .int .i64 a0_1, .int .i64 a0_2, .slice A0_3 l0_3.length c0_3, .slice A0_4 l0_4.length c0_4], .agg #[.int .i64 a1_0, .int .i64 a1_1, .int .i64 a1_2, .int .i64 a1_3]] w fun e w' => ∃ v3_ v4_ v5_ : Value, e = .returned (.tuple #[.agg #[.int .i64 r1, .int .i64 r2, .int .i64 r3, v3_, v4_], v5_, .int .i64 r7]) ∧ Kd.R (Kd.int .i64) 3 w' w.heap.size (fun _ => True) v3_ r4 ∧ Kd.R k50 50 w' w.heap.size (fun _ => True) v4_ r5 ∧ Kd.R k52 52 w' w.heap.size (fun _ => True) v5_ r6 ∧ Below w.heap.size w w' := by
  unfold docket_File.f at h
  obtain ⟨r, hr, h⟩ := Option.bind_eq_some_iff.mp h
  have hb := fil_below w a0_0 a0_1 a0_2 (.slice A0_3 l0_3.length c0_3) (.slice A0_4 l0_4.length c0_4) a1_0 a1_1 a1_2 a1_3
  have hA := docket_Advance.calls k a0_0 a0_1 a0_2 A0_3 c0_3 l0_3 A0_4 c0_4 l0_4 a1_1 r.1 r.2.1 r.2.2.1 r.2.2.2.1 r.2.2.2.2.1 r.2.2.2.2.2.1 r.2.2.2.2.2.2 _ (Kd.C_below hr0_3 hb) hc0_3 (Kd.C_below hr0_4 hb) hc0_4 hr
  exact file_walk k a0_0 a0_1 a0_2 _ _ a1_0 a1_1 a1_2 a1_3 r (r1, r2, r3, r4, r5, r6, r7) w hA h
end Go.Proofs.Ytpfiecjacpbhkaa.D

/- What the Go functions named below come to, each told as_ a Lean function ('.f'), with the proof ('.calls'): no condition beyond those that each theorem states. Written by a program of this session's over the translation. -/
namespace Go.Proofs.Ytpfiecjacpbhkaa.D
open Go.RowKit Go.Proofs.YtpfiecjacpbhkaaW.PrintWords Go.Proofs.YtpfiecjacpbhkaaW.PrintLast Go.Proofs.YtpfiecjacpbhkaaW.PrintMore
attribute [local go_sem] max2_int min2_int max_two min_two max_three min_three max_four min_four   -- for this text's walks alone
set_option linter.unusedVariables false
set_option linter.unusedSimpArgs false

/-! ### docket_Play: function 29 -/
def docket_Play.l0 : Nat → List (S52) → List (S47) → Int → Int → Int → Int → Int → List Int → List (S50) → Option (Int × Int × Int × List Int × (List (S50)) × (List (S52)) × Int × Int)
 | 0, _, _, _, _, _, _, _, _, _ => none
 | k + 1, x12, x28, x29, x30, x189000, x189001, x189002, x189003, x189004 => if x30 < x29 then (if 0 ≤ x30 then (if x30 < (x28.length : Int) then ((docket_File.f k x189000 x189001 x189002 x189003 x189004 ((rd_T47 x28 x30).f0) ((rd_T47 x28 x30).f1) ((rd_T47 x28 x30).f2) ((rd_T47 x28 x30).f3)).bind fun bt191 => (if bt191.2.2.2.2.2.2 = 0 then (if x12.length + bt191.2.2.2.2.2.1.length < 5864062014805 then (docket_Play.l0 k (x12 ++ bt191.2.2.2.2.2.1) x28 x29 (wrap64 (x30 + 1)) bt191.1 bt191.2.1 bt191.2.2.1 bt191.2.2.2.1 bt191.2.2.2.2.1) else (none)) else (some (0, 0, 0, ([] : List Int), ([] : List (S50)), ([] : List (S52)), x30, bt191.2.2.2.2.2.2)))) else (none)) else (none)) else (some (x189000, x189001, x189002, x189003, x189004, x12, (-1), 0))
def docket_Play.f (k : Nat) (a0 : Int) (a1_0 : Int) (a1_1 : Int) (l1_2 : List Int) (l2 : List (S47)) : Option (Int × Int × Int × List Int × (List (S50)) × (List (S52)) × Int × Int) := (docket_New.f k a0 a1_0 a1_1 l1_2).bind fun bt178 => (if bt178.2.2.2.2.2 = 0 then (docket_Play.l0 k ([] : List (S52)) l2 (l2.length : Int) 0 bt178.1 bt178.2.1 bt178.2.2.1 bt178.2.2.2.1 bt178.2.2.2.2.1) else (some (0, 0, 0, ([] : List Int), ([] : List (S50)), ([] : List (S52)), (-1), bt178.2.2.2.2.2)))
theorem docket_Play.mono_l : ∀ k, (∀ y0 y1 y2 y3 y4 y5 y6 y7 y8, LeO (docket_Play.l0 k y0 y1 y2 y3 y4 y5 y6 y7 y8) (docket_Play.l0 (k + 1) y0 y1 y2 y3 y4 y5 y6 y7 y8))
 | 0 => fun _ _ _ _ _ _ _ _ _ r h => by simp [docket_Play.l0] at h
 | k + 1 => by
  have ih0 := docket_Play.mono_l k
  ·intro y0 y1 y2 y3 y4 y5 y6 y7 y8
   unfold docket_Play.l0
   repeat' first
   | (with_reducible exact ih0 _ _ _ _ _ _ _ _ _)
   | (with_reducible exact docket_File.mono _ _ _ _ _ _ _ _ _ _)
   | (with_reducible exact docket_New.mono _ _ _ _ _)
   | (with_reducible exact LeO.refl _)
   | (with_reducible exact LeO.none _)
   | (with_reducible refine LeO.ite ?_ ?_)
   | (with_reducible refine LeO.bind ?_ (fun _ => ?_))
   | exact ih0 _ _ _ _ _ _ _ _ _
   | exact docket_File.mono _ _ _ _ _ _ _ _ _ _
   | exact docket_New.mono _ _ _ _ _
   | exact LeO.none _
   | refine LeO.ite ?_ ?_
   | refine LeO.bind ?_ (fun _ => ?_)
theorem docket_Play.mono : ∀ a0 a1 a2 a3 a4 k, LeO (docket_Play.f k a0 a1 a2 a3 a4) (docket_Play.f (k + 1) a0 a1 a2 a3 a4) := by
 intro a0 a1 a2 a3 a4 k
 have ih0 := docket_Play.mono_l k
 unfold docket_Play.f
 repeat' first
   | (with_reducible exact ih0 _ _ _ _ _ _ _ _ _)
   | (with_reducible exact docket_File.mono _ _ _ _ _ _ _ _ _ _)
   | (with_reducible exact docket_New.mono _ _ _ _ _)
   | (with_reducible exact LeO.refl _)
   | (with_reducible exact LeO.none _)
   | (with_reducible refine LeO.ite ?_ ?_)
   | (with_reducible refine LeO.bind ?_ (fun _ => ?_))
   | exact ih0 _ _ _ _ _ _ _ _ _
   | exact docket_File.mono _ _ _ _ _ _ _ _ _ _
   | exact docket_New.mono _ _ _ _ _
   | exact LeO.none _
   | refine LeO.ite ?_ ?_
   | refine LeO.bind ?_ (fun _ => ?_)
set_option maxHeartbeats 8000000 in
set_option maxRecDepth 100000 in
theorem docket_Play.calls (k : Nat) (a0 : Int) (a1_0 : Int) (a1_1 : Int) (A1_2 : Option Addr) (c1_2 : Nat) (l1_2 : List Int) (A2 : Option Addr) (c2 : Nat) (l2 : List (S47)) (r1 : Int) (r2 : Int) (r3 : Int) (r4 : List Int) (r5 : List (S50)) (r6 : List (S52)) (r7 : Int) (r8 : Int) (w : World) (hr1_2 : Kd.C (Kd.int .i64) w A1_2 l1_2.length l1_2) (hc1_2 : l1_2.length ≤ c1_2) (hr2 : Kd.C k47 w A2 l2.length l2) (hc2 : l2.length ≤ c2) (h : docket_Play.f k a0 a1_0 a1_1 l1_2 l2 = some (r1, r2, r3, r4, r5, r6, r7, r8)) :
  Calls Try.prog 29 #[.int .i64 a0, .agg #[.int .i64 a1_0, .int .i64 a1_1, .slice A1_2 l1_2.length c1_2], .slice A2 l2.length c2] w fun e w' => ∃ v3_ v4_ v5_ : Value, e = .returned (.tuple #[.agg #[.int .i64 r1, .int .i64 r2, .int .i64 r3, v3_, v4_], v5_, .int .i64 r7, .int .i64 r8]) ∧ Kd.R (Kd.int .i64) 3 w' w.heap.size (fun _ => True) v3_ r4 ∧ Kd.R k50 50 w' w.heap.size (fun _ => True) v4_ r5 ∧ Kd.R k52 52 w' w.heap.size (fun _ => True) v5_ r6 ∧ Below w.heap.size w w' := by
 have hu27 := Try.underlying27
 have hu30 := Try.underlying30
 have hu47 := Try.underlying47
 have HR1_2 := Aside0.mk hr1_2
 have HC1_2 := Aside0.mk hc1_2
 clear hr1_2 hc1_2
 have HR2 := Aside0.mk hr2
 have HC2 := Aside0.mk hc2
 clear hr2 hc2
 have HB := Aside0.mk (Below.refl w.heap.size w)
 have H : ((docket_New.f k a0 a1_0 a1_1 l1_2).bind fun bt178 => (if bt178.2.2.2.2.2 = 0 then (docket_Play.l0 k ([] : List (S52)) l2 (l2.length : Int) 0 bt178.1 bt178.2.1 bt178.2.2.1 bt178.2.2.2.1 bt178.2.2.2.2.1) else (some (0, 0, 0, ([] : List Int), ([] : List (S50)), ([] : List (S52)), (-1), bt178.2.2.2.2.2)))) = some (r1, r2, r3, r4, r5, r6, r7, r8) := h
 clear h
 replace H := Option.bind_eq_some_iff.mp H
 obtain ⟨⟨t178, t179, t180, t181, t184, t187⟩, A40, H⟩ := H
 replace H : (if t187 = 0 then (docket_Play.l0 k ([] : List (S52)) l2 (l2.length : Int) 0 t178 t179 t180 t181 t184) else (some (0, 0, 0, ([] : List Int), ([] : List (S50)), ([] : List (S52)), (-1), t187))) = some (r1, r2, r3, r4, r5, r6, r7, r8) := H
 have A4 := Aside0.mk A40
 clear A40
 by_cases c5 : t187 = 0
 ·rw [if_pos c5] at H
  have c5b0 : (t187 == 0) = true := beq_iff_eq.mpr c5
  have c5b1 : (t187 != 0) = false := bne_eq_false_iff_eq.mpr c5
  clear c5
  have H' := Aside0.mk H
  clear H
  go_enter Try.func29, Try.ntmps29
  go_wp2_with (first | ((with_reducible refine gate_dst (N := 4) rfl ?_); refine boxE (N := 4) #[.int .i64 a1_0, .int .i64 a1_1, .slice A1_2 l1_2.length c1_2] 27 ?_; intro gb176 hg w6 hbox hb; have BK176 := Aside0.mk (hbox); have GW176 := gS HB hg; have GE176 := gS HB hg; replace HB := Aside0.mk (below_step (pB HB) hb); clear hb hbox hg) | ((with_reducible refine gate_dst (N := 6) rfl ?_); refine boxE (N := 6) #[.int .i64 0, .int .i64 0, .int .i64 0, .slice none 0 0, .slice none 0 0] 30 ?_; intro gb177 hg w7 hbox hb; have BK177 := Aside0.mk (hbox); have GW177 := gS HB hg; have GE177 := gS HB hg; have NB176_177 := nL BK176 hg; have NB177_176 := nG BK176 hg; replace BK176 := bB BK176 hb; replace HB := Aside0.mk (below_step (pB HB) hb); clear hb hbox hg; have hnb8 := NB176_177.out; have hnc8 := NB177_176.out; obtain ⟨hcz9_0, hcz9_1, hcz9_2⟩ := cells3 BK176; obtain ⟨hfz9_0, hfz9_1, hfz9_2⟩ := frz3 BK176) | ((with_reducible refine gate_callee (f := 17) rfl ?_); refine goesL_ (some 21) rfl rfl Try.func17 (by kernel_rfl) rfl #[.int .i64 a0, .agg #[.int .i64 a1_0, .int .i64 a1_1, .slice A1_2 l1_2.length c1_2]] rfl (by (try simp only [List.map_toArray, List.map_cons, List.map_nil]); first | done | rfl | (simp only [List.length_drop, List.length_take]; rfl)) ?_; (with_reducible refine (docket_New.calls k a0 a1_0 a1_1 _ _ l1_2 t178 t179 t180 t181 t184 t187 _ ?side1 ?side2 A4.out).mono ?_); (case side1 => exact cB HR1_2 HB); (case side2 => exact HC1_2.out); rintro e w10 ⟨v182, v185, rfl, ho0, ho1, hb⟩; refine ⟨_, rfl, ?_⟩; have HO183 := Aside0.mk (Kd.R_lower ho0 (below_size (pB HB))); have HO186 := Aside0.mk (Kd.R_lower ho1 (below_size (pB HB))); replace BK176 := bB BK176 hb; replace BK177 := bB BK177 hb; replace HB := Aside0.mk (below_step (pB HB) hb); (try clear hb); (try clear ho0); (try clear ho1)) | ((with_reducible refine gate_dst (N := 10) rfl ?_); refine boxE (N := 10) #[.int .i64 0, .int .i64 0, .int .i64 0, .slice none 0 0, .slice none 0 0] 30 ?_; intro gb188 hg w11 hbox hb; have BK188 := Aside0.mk (hbox); have GW188 := gS HB hg; have GE188 := gS HB hg; have NB176_188 := nL BK176 hg; have NB188_176 := nG BK176 hg; have NB177_188 := nL BK177 hg; have NB188_177 := nG BK177 hg; replace HO183 := rB HO183 hb; replace HO186 := rB HO186 hb; replace BK176 := bB BK176 hb; replace BK177 := bB BK177 hb; replace HB := Aside0.mk (below_step (pB HB) hb); clear hb hbox hg; have hnb12 := NB188_176.out; have hnc12 := NB176_188.out; have hnb13 := NB188_177.out; have hnc13 := NB177_188.out; obtain ⟨hcz14_0, hcz14_1, hcz14_2, hcz14_3, hcz14_4⟩ := cells5 BK188; obtain ⟨hfz14_0, hfz14_1, hfz14_2, hfz14_3, hfz14_4⟩ := frz5 BK188; obtain ⟨Ao15, co15, eo15⟩ := Kd.R_slice HO183.out; subst eo15; obtain ⟨Ao16, co16, eo16⟩ := Kd.R_slice HO186.out; subst eo16))
  go_loopg [12, 30] k (fun kq v12 v30 w' => ∃ (x12_1 : List (S52)) (x30_1 : Int) (x178000_1 : Int) (x178001_1 : Int) (x178002_1 : Int) (x189000_1 : Int) (x189001_1 : Int) (x189002_1 : Int) (x189003_1 : List Int) (x189004_1 : List (S50)) (u189003 : Value) (u189004 : Value), v30 = .int .i64 x30_1 ∧ Aside0 (docket_Play.l0 kq x12_1 l2 (l2.length : Int) x30_1 x189000_1 x189001_1 x189002_1 x189003_1 x189004_1 = some (r1, r2, r3, r4, r5, r6, r7, r8)) ∧ Aside0 (kq ≤ k) ∧ Aside0 (Kd.R k52 52 w' w.heap.size (fun _ => True) v12 x12_1) ∧ Aside0 (Kd.R (Kd.int .i64) 3 w' w.heap.size (fun _ => True) u189003 x189003_1) ∧ Aside0 (Kd.R k50 50 w' w.heap.size (fun _ => True) u189004 x189004_1) ∧ Aside0 (w'.heap[gb176]? = some (.cells #[.int .i64 a1_0, .int .i64 a1_1, (.slice A1_2 l1_2.length c1_2)] 27 (0, 0))) ∧ Aside0 (w'.heap[gb177]? = some (.cells #[.int .i64 x178000_1, .int .i64 x178001_1, .int .i64 x178002_1, (.slice none 0 0), (.slice none 0 0)] 30 (0, 0))) ∧ Aside0 (w'.heap[gb188]? = some (.cells #[.int .i64 x189000_1, .int .i64 x189001_1, .int .i64 x189002_1, u189003, u189004] 30 (0, 0))) ∧ Aside0 (Below w.heap.size w w'))
  case atStart => exact ⟨(([] : List (S52))), (0), (0), (0), (0), (t178), (t179), (t180), (t181), (t184), (.slice Ao15 t181.length co15), (.slice Ao16 t184.length co16), (by first | rfl | (simp; done) | (simp [*]; done)), H', ⟨Nat.le_refl _⟩, ⟨by first | exact Kd.R_nil _ _ _ _ _ | exact Kd.N_nil _ _ _ _ _ | exact Kd.V_nil _ _ _ _ _ | exact Kd.Q_nil _ _ _ _ _ | exact Kd.S_nil _ _ _ _ _⟩, ⟨by (with_reducible repeat (first | apply Kd.R_alloc | apply Kd.R_drewN | apply Kd.R_drew)); exact Kd.R_mono (Kd.R_far (p := ⟨gb188, 4, none⟩) (Kd.R_far (p := ⟨gb188, 3, none⟩) (Kd.R_far (p := ⟨gb188, 2, none⟩) (Kd.R_far (p := ⟨gb188, 1, none⟩) (Kd.R_far (p := ⟨gb188, 0, none⟩) (Kd.R_types HO183.out BK188.out (by decide)) (fun _ hk => hk.2) (.int .i64 t178)) (fun _ hk => hk.2) (.int .i64 t179)) (fun _ hk => hk.2) (.int .i64 t180)) (fun _ hk => hk.2) (.slice Ao15 t181.length co15)) (fun _ hk => hk.2) (.slice Ao16 t184.length co16)) (fun _ hk => trivial)⟩, ⟨by (with_reducible repeat (first | apply Kd.R_alloc | apply Kd.R_drewN | apply Kd.R_drew)); exact Kd.R_mono (Kd.R_far (p := ⟨gb188, 4, none⟩) (Kd.R_far (p := ⟨gb188, 3, none⟩) (Kd.R_far (p := ⟨gb188, 2, none⟩) (Kd.R_far (p := ⟨gb188, 1, none⟩) (Kd.R_far (p := ⟨gb188, 0, none⟩) (Kd.R_types HO186.out BK188.out (by decide)) (fun _ hk => hk.2) (.int .i64 t178)) (fun _ hk => hk.2) (.int .i64 t179)) (fun _ hk => hk.2) (.int .i64 t180)) (fun _ hk => hk.2) (.slice Ao15 t181.length co15)) (fun _ hk => hk.2) (.slice Ao16 t184.length co16)) (fun _ hk => trivial)⟩, ⟨by (with_reducible repeat (first | refine blk_drewN ?_ _ | refine blk_drew ?_ | refine blk_alloc ?_ _)); refine blk_far ?_ NB176_188.out _; (with_reducible repeat (first | refine blk_drewN ?_ _ | refine blk_drew ?_ | refine blk_alloc ?_ _)); refine blk_far ?_ NB176_188.out _; (with_reducible repeat (first | refine blk_drewN ?_ _ | refine blk_drew ?_ | refine blk_alloc ?_ _)); refine blk_far ?_ NB176_188.out _; (with_reducible repeat (first | refine blk_drewN ?_ _ | refine blk_drew ?_ | refine blk_alloc ?_ _)); refine blk_far ?_ NB176_188.out _; (with_reducible repeat (first | refine blk_drewN ?_ _ | refine blk_drew ?_ | refine blk_alloc ?_ _)); refine blk_far ?_ NB176_188.out _; (with_reducible repeat (first | refine blk_drewN ?_ _ | refine blk_drew ?_ | refine blk_alloc ?_ _)); exact BK176.out⟩, ⟨by (with_reducible repeat (first | refine blk_drewN ?_ _ | refine blk_drew ?_ | refine blk_alloc ?_ _)); refine blk_far ?_ NB177_188.out _; (with_reducible repeat (first | refine blk_drewN ?_ _ | refine blk_drew ?_ | refine blk_alloc ?_ _)); refine blk_far ?_ NB177_188.out _; (with_reducible repeat (first | refine blk_drewN ?_ _ | refine blk_drew ?_ | refine blk_alloc ?_ _)); refine blk_far ?_ NB177_188.out _; (with_reducible repeat (first | refine blk_drewN ?_ _ | refine blk_drew ?_ | refine blk_alloc ?_ _)); refine blk_far ?_ NB177_188.out _; (with_reducible repeat (first | refine blk_drewN ?_ _ | refine blk_drew ?_ | refine blk_alloc ?_ _)); refine blk_far ?_ NB177_188.out _; (with_reducible repeat (first | refine blk_drewN ?_ _ | refine blk_drew ?_ | refine blk_alloc ?_ _)); exact BK177.out⟩, ⟨by (with_reducible repeat (first | refine blk_drewN ?_ _ | refine blk_drew ?_ | refine blk_alloc ?_ _)); refine blk_put (cs := #[.int .i64 t178, .int .i64 t179, .int .i64 t180, .slice Ao15 t181.length co15, .slice none 0 0]) ?_ 4 _ rfl; (with_reducible repeat (first | refine blk_drewN ?_ _ | refine blk_drew ?_ | refine blk_alloc ?_ _)); refine blk_put (cs := #[.int .i64 t178, .int .i64 t179, .int .i64 t180, .slice none 0 0, .slice none 0 0]) ?_ 3 _ rfl; (with_reducible repeat (first | refine blk_drewN ?_ _ | refine blk_drew ?_ | refine blk_alloc ?_ _)); refine blk_put (cs := #[.int .i64 t178, .int .i64 t179, .int .i64 0, .slice none 0 0, .slice none 0 0]) ?_ 2 _ rfl; (with_reducible repeat (first | refine blk_drewN ?_ _ | refine blk_drew ?_ | refine blk_alloc ?_ _)); refine blk_put (cs := #[.int .i64 t178, .int .i64 0, .int .i64 0, .slice none 0 0, .slice none 0 0]) ?_ 1 _ rfl; (with_reducible repeat (first | refine blk_drewN ?_ _ | refine blk_drew ?_ | refine blk_alloc ?_ _)); refine blk_put (cs := #[.int .i64 0, .int .i64 0, .int .i64 0, .slice none 0 0, .slice none 0 0]) ?_ 0 _ rfl; (with_reducible repeat (first | refine blk_drewN ?_ _ | refine blk_drew ?_ | refine blk_alloc ?_ _)); exact BK188.out⟩, ⟨pB HB⟩⟩
  case round =>
   clear H'
   try clear c1
   try clear c2
   try clear p2
   try clear c5
   try clear c5b0
   try clear c5b1
   try clear c8
   try clear c12
   try clear c13
   obtain ⟨x12_1, x30_1, x178000_1, x178001_1, x178002_1, x189000_1, x189001_1, x189002_1, x189003_1, x189004_1, u189003, u189004, rfl, HA, HK1, HO_12, HO_189003, HO_189004, BK176, BK177, BK188, HB⟩ := hrel
   cases gk with
   | zero => exact absurd HA.out (by simp [docket_Play.l0])
   | succ k1 =>
    have H := HA.out
    clear HA
    simp only [docket_Play.l0] at H
    by_cases c17 : x30_1 < (l2.length : Int)
    ·rw [if_pos c17] at H
     have c17b0 : decide (x30_1 < (l2.length : Int)) = true := decide_eq_true c17
     clear c17
     by_cases c18 : 0 ≤ x30_1
     ·rw [if_pos c18] at H
      have c18b0 : decide (0 ≤ x30_1) = true := decide_eq_true c18
      clear c18
      by_cases c19 : x30_1 < (l2.length : Int)
      ·rw [if_pos c19] at H
       have c19b0 : decide (x30_1 < (l2.length : Int)) = true := decide_eq_true c19
       clear c19
       replace H := Option.bind_eq_some_iff.mp H
       obtain ⟨⟨t191, t192, t193, t194, t197, t200, t203⟩, A200, H⟩ := H
       replace H : (if t203 = 0 then (if x12_1.length + t200.length < 5864062014805 then (docket_Play.l0 k1 (x12_1 ++ t200) l2 (l2.length : Int) (wrap64 (x30_1 + 1)) t191 t192 t193 t194 t197) else (none)) else (some (0, 0, 0, ([] : List Int), ([] : List (S50)), ([] : List (S52)), x30_1, t203))) = some (r1, r2, r3, r4, r5, r6, r7, r8) := H
       have A20 := Aside0.mk A200
       clear A200
       by_cases c21 : t203 = 0
       ·rw [if_pos c21] at H
        have c21b0 : (t203 == 0) = true := beq_iff_eq.mpr c21
        have c21b1 : (t203 != 0) = false := bne_eq_false_iff_eq.mpr c21
        clear c21
        by_cases c22 : x12_1.length + t200.length < 5864062014805
        ·rw [if_pos c22] at H
         have LMc22 := Aside0.mk c22
         clear c22
         obtain ⟨y205, hy205⟩ : ∃ y_ : List (S52), y_ = (x12_1 ++ t200) := ⟨_, rfl⟩
         replace H : (docket_Play.l0 k1 y205 l2 (l2.length : Int) (wrap64 (x30_1 + 1)) t191 t192 t193 t194 t197) = some (r1, r2, r3, r4, r5, r6, r7, r8) := by first | (rw [hy205]; with_reducible exact H) | (have H2_ := (Option.bind_some _ _).symm.trans H; rw [hy205]; with_reducible exact H2_) | (have H2_ := (Option.bind_some _ _).symm.trans H; with_reducible exact H2_) | with_reducible exact H | (rw [hy205]; exact H) | exact H
         have Ny205 := Aside0.mk hy205
         clear hy205
         have H' := Aside0.mk H
         clear H
         have p189 : 0 ≤ (x30_1 : Int) := of_decide_eq_true (by first | (with_reducible assumption) | assumption)
         have q189 : x30_1 < (l2.length : Int) := of_decide_eq_true (by first | (with_reducible assumption) | assumption)
         obtain ⟨ad189, e189, hx189_0, hx189_1, hx189_2, hx189_3⟩ := at_T47 HR2.out x30_1 p189 q189
         cases e189
         replace hx189_0 := (HB.out.cell (World.block_lt_of_cell? w _ hx189_0)).trans hx189_0
         replace hx189_1 := (HB.out.cell (World.block_lt_of_cell? w _ hx189_1)).trans hx189_1
         replace hx189_2 := (HB.out.cell (World.block_lt_of_cell? w _ hx189_2)).trans hx189_2
         replace hx189_3 := (HB.out.cell (World.block_lt_of_cell? w _ hx189_3)).trans hx189_3
         replace p189 := eq_true p189
         replace q189 := eq_true q189
         try go_wp2_with (first | ((with_reducible refine gate_dst (N := 14) rfl ?_); refine boxE (N := 14) #[.int .i64 0, .int .i64 0, .int .i64 0, .int .i64 0] 47 ?_; intro gb190 hg w23 hbox hb; have BK190 := Aside0.mk (hbox); have GW190 := gS HB hg; have GE190 := gS HB hg; have NB176_190 := nL BK176 hg; have NB190_176 := nG BK176 hg; have NB177_190 := nL BK177 hg; have NB190_177 := nG BK177 hg; have NB188_190 := nL BK188 hg; have NB190_188 := nG BK188 hg; replace HO_12 := rB HO_12 hb; replace HO_189003 := rB HO_189003 hb; replace HO_189004 := rB HO_189004 hb; replace BK176 := bB BK176 hb; replace BK177 := bB BK177 hb; replace BK188 := bB BK188 hb; replace HB := Aside0.mk (below_step (pB HB) hb); clear hb hbox hg; have hnb24 := NB190_176.out; have hnc24 := NB176_190.out; have hnb25 := NB190_177.out; have hnc25 := NB177_190.out; have hnb26 := NB190_188.out; have hnc26 := NB188_190.out; obtain ⟨hcz27_0, hcz27_1, hcz27_2, hcz27_3⟩ := cells4 BK190; obtain ⟨hfz27_0, hfz27_1, hfz27_2, hfz27_3⟩ := frz4 BK190; have hnb28 := NB188_176.out; have hnc28 := NB176_188.out; have hnb29 := NB188_177.out; have hnc29 := NB177_188.out; obtain ⟨hcz30_0, hcz30_1, hcz30_2, hcz30_3, hcz30_4⟩ := cells5 BK188; obtain ⟨hfz30_0, hfz30_1, hfz30_2, hfz30_3, hfz30_4⟩ := frz5 BK188; obtain ⟨Ao31, co31, eo31⟩ := Kd.R_slice HO_189003.out; subst eo31; obtain ⟨Ao32, co32, eo32⟩ := Kd.R_slice HO_189004.out; subst eo32) | ((with_reducible refine gate_callee (f := 20) rfl ?_); refine goesL_ (some 38) rfl rfl Try.func20 (by kernel_rfl) rfl #[.agg #[.int .i64 x189000_1, .int .i64 x189001_1, .int .i64 x189002_1, .slice Ao31 x189003_1.length co31, .slice Ao32 x189004_1.length co32], .agg #[.int .i64 ((rd_T47 l2 x30_1).f0), .int .i64 ((rd_T47 l2 x30_1).f1), .int .i64 ((rd_T47 l2 x30_1).f2), .int .i64 ((rd_T47 l2 x30_1).f3)]] rfl (by (try simp only [List.map_toArray, List.map_cons, List.map_nil]); first | done | rfl | (simp only [List.length_drop, List.length_take]; rfl)) ?_; (with_reducible refine (docket_File.calls k1 x189000_1 x189001_1 x189002_1 _ _ x189003_1 _ _ x189004_1 ((rd_T47 l2 x30_1).f0) ((rd_T47 l2 x30_1).f1) ((rd_T47 l2 x30_1).f2) ((rd_T47 l2 x30_1).f3) t191 t192 t193 t194 t197 t200 t203 _ ?side1 ?side2 ?side3 ?side4 A20.out).mono ?_); (case side1 => refine (Kd.R_reads' (e := 3) (base := w.heap.size) (ok := fun k_ => True) (n := x189003_1.length) (c := co31) ?_).2.2; exact (by (with_reducible repeat (first | apply Kd.R_alloc | apply Kd.R_drewN | apply Kd.R_drew)); exact (Kd.R_mono (Kd.R_far (p := ⟨gb190, 3, none⟩) (Kd.R_far (p := ⟨gb190, 2, none⟩) (Kd.R_far (p := ⟨gb190, 1, none⟩) (Kd.R_far (p := ⟨gb190, 0, none⟩) (Kd.R_types HO_189003.out BK190.out (by decide)) (fun _ hk => hk.2) (.int .i64 ((rd_T47 l2 x30_1).f0))) (fun _ hk => hk.2) (.int .i64 ((rd_T47 l2 x30_1).f1))) (fun _ hk => hk.2) (.int .i64 ((rd_T47 l2 x30_1).f2))) (fun _ hk => hk.2) (.int .i64 ((rd_T47 l2 x30_1).f3))) (fun _ h_ => h_.1)))); (case side2 => exact (Kd.R_reads' HO_189003.out).2.1); (case side3 => refine (Kd.R_reads' (e := 50) (base := w.heap.size) (ok := fun k_ => True) (n := x189004_1.length) (c := co32) ?_).2.2; exact (by (with_reducible repeat (first | apply Kd.R_alloc | apply Kd.R_drewN | apply Kd.R_drew)); exact (Kd.R_mono (Kd.R_far (p := ⟨gb190, 3, none⟩) (Kd.R_far (p := ⟨gb190, 2, none⟩) (Kd.R_far (p := ⟨gb190, 1, none⟩) (Kd.R_far (p := ⟨gb190, 0, none⟩) (Kd.R_types HO_189004.out BK190.out (by decide)) (fun _ hk => hk.2) (.int .i64 ((rd_T47 l2 x30_1).f0))) (fun _ hk => hk.2) (.int .i64 ((rd_T47 l2 x30_1).f1))) (fun _ hk => hk.2) (.int .i64 ((rd_T47 l2 x30_1).f2))) (fun _ hk => hk.2) (.int .i64 ((rd_T47 l2 x30_1).f3))) (fun _ h_ => h_.1)))); (case side4 => exact (Kd.R_reads' HO_189004.out).2.1); rintro e w33 ⟨v195, v198, v201, rfl, ho0, ho1, ho2, hb⟩; refine ⟨_, rfl, ?_⟩; have HO196 := Aside0.mk (Kd.R_lower (Kd.R_new' ho0 (Kd.R_lt (by (with_reducible repeat (first | apply Kd.R_alloc | apply Kd.R_drewN | apply Kd.R_drew)); exact (Kd.R_mono (Kd.R_far (p := ⟨gb190, 3, none⟩) (Kd.R_far (p := ⟨gb190, 2, none⟩) (Kd.R_far (p := ⟨gb190, 1, none⟩) (Kd.R_far (p := ⟨gb190, 0, none⟩) (Kd.R_types HO_189003.out BK190.out (by decide)) (fun _ hk => hk.2) (.int .i64 ((rd_T47 l2 x30_1).f0))) (fun _ hk => hk.2) (.int .i64 ((rd_T47 l2 x30_1).f1))) (fun _ hk => hk.2) (.int .i64 ((rd_T47 l2 x30_1).f2))) (fun _ hk => hk.2) (.int .i64 ((rd_T47 l2 x30_1).f3))) (fun _ h_ => h_.1))))) (below_size (pB HB))); have HO199 := Aside0.mk (Kd.R_lower (Kd.R_new' ho1 (Kd.R_lt (by (with_reducible repeat (first | apply Kd.R_alloc | apply Kd.R_drewN | apply Kd.R_drew)); exact (Kd.R_mono (Kd.R_far (p := ⟨gb190, 3, none⟩) (Kd.R_far (p := ⟨gb190, 2, none⟩) (Kd.R_far (p := ⟨gb190, 1, none⟩) (Kd.R_far (p := ⟨gb190, 0, none⟩) (Kd.R_types HO_189004.out BK190.out (by decide)) (fun _ hk => hk.2) (.int .i64 ((rd_T47 l2 x30_1).f0))) (fun _ hk => hk.2) (.int .i64 ((rd_T47 l2 x30_1).f1))) (fun _ hk => hk.2) (.int .i64 ((rd_T47 l2 x30_1).f2))) (fun _ hk => hk.2) (.int .i64 ((rd_T47 l2 x30_1).f3))) (fun _ h_ => h_.1))))) (below_size (pB HB))); have HO202 := Aside0.mk (Kd.R_lower (Kd.R_new' ho2 (Kd.R_lt (by (with_reducible repeat (first | apply Kd.R_alloc | apply Kd.R_drewN | apply Kd.R_drew)); exact (Kd.R_mono (Kd.R_far (p := ⟨gb190, 3, none⟩) (Kd.R_far (p := ⟨gb190, 2, none⟩) (Kd.R_far (p := ⟨gb190, 1, none⟩) (Kd.R_far (p := ⟨gb190, 0, none⟩) (Kd.R_types HO_12.out BK190.out (by decide)) (fun _ hk => hk.2) (.int .i64 ((rd_T47 l2 x30_1).f0))) (fun _ hk => hk.2) (.int .i64 ((rd_T47 l2 x30_1).f1))) (fun _ hk => hk.2) (.int .i64 ((rd_T47 l2 x30_1).f2))) (fun _ hk => hk.2) (.int .i64 ((rd_T47 l2 x30_1).f3))) (fun _ h_ => h_.1))))) (below_size (pB HB))); replace HO_12 := Aside0.mk (Kd.R_elder' (by (with_reducible repeat (first | apply Kd.R_alloc | apply Kd.R_drewN | apply Kd.R_drew)); exact (Kd.R_mono (Kd.R_far (p := ⟨gb190, 3, none⟩) (Kd.R_far (p := ⟨gb190, 2, none⟩) (Kd.R_far (p := ⟨gb190, 1, none⟩) (Kd.R_far (p := ⟨gb190, 0, none⟩) (Kd.R_types HO_12.out BK190.out (by decide)) (fun _ hk => hk.2) (.int .i64 ((rd_T47 l2 x30_1).f0))) (fun _ hk => hk.2) (.int .i64 ((rd_T47 l2 x30_1).f1))) (fun _ hk => hk.2) (.int .i64 ((rd_T47 l2 x30_1).f2))) (fun _ hk => hk.2) (.int .i64 ((rd_T47 l2 x30_1).f3))) (fun _ h_ => h_.1))) (Kd.R_base ho2) hb); replace HO_189003 := Aside0.mk (Kd.R_elder' (by (with_reducible repeat (first | apply Kd.R_alloc | apply Kd.R_drewN | apply Kd.R_drew)); exact (Kd.R_mono (Kd.R_far (p := ⟨gb190, 3, none⟩) (Kd.R_far (p := ⟨gb190, 2, none⟩) (Kd.R_far (p := ⟨gb190, 1, none⟩) (Kd.R_far (p := ⟨gb190, 0, none⟩) (Kd.R_types HO_189003.out BK190.out (by decide)) (fun _ hk => hk.2) (.int .i64 ((rd_T47 l2 x30_1).f0))) (fun _ hk => hk.2) (.int .i64 ((rd_T47 l2 x30_1).f1))) (fun _ hk => hk.2) (.int .i64 ((rd_T47 l2 x30_1).f2))) (fun _ hk => hk.2) (.int .i64 ((rd_T47 l2 x30_1).f3))) (fun _ h_ => h_.1))) (Kd.R_base ho0) hb); replace HO_189004 := Aside0.mk (Kd.R_elder' (by (with_reducible repeat (first | apply Kd.R_alloc | apply Kd.R_drewN | apply Kd.R_drew)); exact (Kd.R_mono (Kd.R_far (p := ⟨gb190, 3, none⟩) (Kd.R_far (p := ⟨gb190, 2, none⟩) (Kd.R_far (p := ⟨gb190, 1, none⟩) (Kd.R_far (p := ⟨gb190, 0, none⟩) (Kd.R_types HO_189004.out BK190.out (by decide)) (fun _ hk => hk.2) (.int .i64 ((rd_T47 l2 x30_1).f0))) (fun _ hk => hk.2) (.int .i64 ((rd_T47 l2 x30_1).f1))) (fun _ hk => hk.2) (.int .i64 ((rd_T47 l2 x30_1).f2))) (fun _ hk => hk.2) (.int .i64 ((rd_T47 l2 x30_1).f3))) (fun _ h_ => h_.1))) (Kd.R_base ho1) hb); replace BK176 := Aside0.mk (blk_below (g := gb176) (o := .cells #[.int .i64 a1_0, .int .i64 a1_1, .slice A1_2 l1_2.length c1_2] 27 (0, 0)) (by (with_reducible repeat (first | refine blk_drewN ?_ _ | refine blk_drew ?_ | refine blk_alloc ?_ _)); refine blk_far ?_ NB176_190.out _; (with_reducible repeat (first | refine blk_drewN ?_ _ | refine blk_drew ?_ | refine blk_alloc ?_ _)); refine blk_far ?_ NB176_190.out _; (with_reducible repeat (first | refine blk_drewN ?_ _ | refine blk_drew ?_ | refine blk_alloc ?_ _)); refine blk_far ?_ NB176_190.out _; (with_reducible repeat (first | refine blk_drewN ?_ _ | refine blk_drew ?_ | refine blk_alloc ?_ _)); refine blk_far ?_ NB176_190.out _; (with_reducible repeat (first | refine blk_drewN ?_ _ | refine blk_drew ?_ | refine blk_alloc ?_ _)); exact BK176.out) hb); replace BK177 := Aside0.mk (blk_below (g := gb177) (o := .cells #[.int .i64 x178000_1, .int .i64 x178001_1, .int .i64 x178002_1, .slice none 0 0, .slice none 0 0] 30 (0, 0)) (by (with_reducible repeat (first | refine blk_drewN ?_ _ | refine blk_drew ?_ | refine blk_alloc ?_ _)); refine blk_far ?_ NB177_190.out _; (with_reducible repeat (first | refine blk_drewN ?_ _ | refine blk_drew ?_ | refine blk_alloc ?_ _)); refine blk_far ?_ NB177_190.out _; (with_reducible repeat (first | refine blk_drewN ?_ _ | refine blk_drew ?_ | refine blk_alloc ?_ _)); refine blk_far ?_ NB177_190.out _; (with_reducible repeat (first | refine blk_drewN ?_ _ | refine blk_drew ?_ | refine blk_alloc ?_ _)); refine blk_far ?_ NB177_190.out _; (with_reducible repeat (first | refine blk_drewN ?_ _ | refine blk_drew ?_ | refine blk_alloc ?_ _)); exact BK177.out) hb); replace BK188 := Aside0.mk (blk_below (g := gb188) (o := .cells #[.int .i64 x189000_1, .int .i64 x189001_1, .int .i64 x189002_1, .slice Ao31 x189003_1.length co31, .slice Ao32 x189004_1.length co32] 30 (0, 0)) (by (with_reducible repeat (first | refine blk_drewN ?_ _ | refine blk_drew ?_ | refine blk_alloc ?_ _)); refine blk_far ?_ NB188_190.out _; (with_reducible repeat (first | refine blk_drewN ?_ _ | refine blk_drew ?_ | refine blk_alloc ?_ _)); refine blk_far ?_ NB188_190.out _; (with_reducible repeat (first | refine blk_drewN ?_ _ | refine blk_drew ?_ | refine blk_alloc ?_ _)); refine blk_far ?_ NB188_190.out _; (with_reducible repeat (first | refine blk_drewN ?_ _ | refine blk_drew ?_ | refine blk_alloc ?_ _)); refine blk_far ?_ NB188_190.out _; (with_reducible repeat (first | refine blk_drewN ?_ _ | refine blk_drew ?_ | refine blk_alloc ?_ _)); exact BK188.out) hb); replace BK190 := Aside0.mk (blk_below (g := gb190) (o := .cells #[.int .i64 ((rd_T47 l2 x30_1).f0), .int .i64 ((rd_T47 l2 x30_1).f1), .int .i64 ((rd_T47 l2 x30_1).f2), .int .i64 ((rd_T47 l2 x30_1).f3)] 47 (0, 0)) (by (with_reducible repeat (first | refine blk_drewN ?_ _ | refine blk_drew ?_ | refine blk_alloc ?_ _)); refine blk_put (cs := #[.int .i64 ((rd_T47 l2 x30_1).f0), .int .i64 ((rd_T47 l2 x30_1).f1), .int .i64 ((rd_T47 l2 x30_1).f2), .int .i64 0]) ?_ 3 _ rfl; (with_reducible repeat (first | refine blk_drewN ?_ _ | refine blk_drew ?_ | refine blk_alloc ?_ _)); refine blk_put (cs := #[.int .i64 ((rd_T47 l2 x30_1).f0), .int .i64 ((rd_T47 l2 x30_1).f1), .int .i64 0, .int .i64 0]) ?_ 2 _ rfl; (with_reducible repeat (first | refine blk_drewN ?_ _ | refine blk_drew ?_ | refine blk_alloc ?_ _)); refine blk_put (cs := #[.int .i64 ((rd_T47 l2 x30_1).f0), .int .i64 0, .int .i64 0, .int .i64 0]) ?_ 1 _ rfl; (with_reducible repeat (first | refine blk_drewN ?_ _ | refine blk_drew ?_ | refine blk_alloc ?_ _)); refine blk_put (cs := #[.int .i64 0, .int .i64 0, .int .i64 0, .int .i64 0]) ?_ 0 _ rfl; (with_reducible repeat (first | refine blk_drewN ?_ _ | refine blk_drew ?_ | refine blk_alloc ?_ _)); exact BK190.out) hb); replace HB := Aside0.mk (below_step (pB HB) hb); (try clear hb); (try clear ho0); (try clear ho1); (try clear ho2)) | ((with_reducible refine gate_dst (N := 15) rfl ?_); refine boxE (N := 15) #[.int .i64 0, .int .i64 0, .int .i64 0, .slice none 0 0, .slice none 0 0] 30 ?_; intro gb204 hg w34 hbox hb; have BK204 := Aside0.mk (hbox); have GW204 := gS HB hg; have GE204 := gS HB hg; have NB176_204 := nL BK176 hg; have NB204_176 := nG BK176 hg; have NB177_204 := nL BK177 hg; have NB204_177 := nG BK177 hg; have NB188_204 := nL BK188 hg; have NB204_188 := nG BK188 hg; have NB190_204 := nL BK190 hg; have NB204_190 := nG BK190 hg; replace HO_12 := rB HO_12 hb; replace HO_189003 := rB HO_189003 hb; replace HO_189004 := rB HO_189004 hb; replace HO196 := rB HO196 hb; replace HO199 := rB HO199 hb; replace HO202 := rB HO202 hb; replace BK176 := bB BK176 hb; replace BK177 := bB BK177 hb; replace BK188 := bB BK188 hb; replace BK190 := bB BK190 hb; replace HB := Aside0.mk (below_step (pB HB) hb); clear hb hbox hg; have hnb35 := NB204_176.out; have hnc35 := NB176_204.out; have hnb36 := NB204_177.out; have hnc36 := NB177_204.out; have hnb37 := NB204_188.out; have hnc37 := NB188_204.out; have hnb38 := NB204_190.out; have hnc38 := NB190_204.out; obtain ⟨hcz39_0, hcz39_1, hcz39_2, hcz39_3, hcz39_4⟩ := cells5 BK204; obtain ⟨hfz39_0, hfz39_1, hfz39_2, hfz39_3, hfz39_4⟩ := frz5 BK204; obtain ⟨Ao40, co40, eo40⟩ := Kd.R_slice HO196.out; subst eo40; obtain ⟨Ao41, co41, eo41⟩ := Kd.R_slice HO199.out; subst eo41))
         have n0_ : Aside0 (Kd.R k52 52 (((((w34.setCell ⟨gb204, 0, none⟩ (.int .i64 t191)).setCell ⟨gb204, 1, none⟩ (.int .i64 t192)).setCell ⟨gb204, 2, none⟩ (.int .i64 t193)).setCell ⟨gb204, 3, none⟩ (.slice Ao40 t194.length co40)).setCell ⟨gb204, 4, none⟩ (.slice Ao41 t197.length co41)) w.heap.size (fun k_ => some k_ ≠ (v201 : Value).ownBlock) u12 x12_1) := ⟨by (with_reducible repeat (first | apply Kd.R_alloc | apply Kd.R_drewN | apply Kd.R_drew)); exact Kd.R_mono (Kd.R_far (p := ⟨gb204, 4, none⟩) (Kd.R_far (p := ⟨gb204, 3, none⟩) (Kd.R_far (p := ⟨gb204, 2, none⟩) (Kd.R_far (p := ⟨gb204, 1, none⟩) (Kd.R_far (p := ⟨gb204, 0, none⟩) (Kd.R_types HO_12.out BK204.out (by decide)) (fun _ hk => hk.2) (.int .i64 t191)) (fun _ hk => hk.2) (.int .i64 t192)) (fun _ hk => hk.2) (.int .i64 t193)) (fun _ hk => hk.2) (.slice Ao40 t194.length co40)) (fun _ hk => hk.2) (.slice Ao41 t197.length co41)) (fun _ hk => hk.1.2)⟩
         have n1_ : Aside0 (Kd.R (Kd.int .i64) 3 (((((w34.setCell ⟨gb204, 0, none⟩ (.int .i64 t191)).setCell ⟨gb204, 1, none⟩ (.int .i64 t192)).setCell ⟨gb204, 2, none⟩ (.int .i64 t193)).setCell ⟨gb204, 3, none⟩ (.slice Ao40 t194.length co40)).setCell ⟨gb204, 4, none⟩ (.slice Ao41 t197.length co41)) w.heap.size (fun k_ => some k_ ≠ (.slice Ao40 t194.length co40 : Value).ownBlock) (.slice Ao31 x189003_1.length co31) x189003_1) := ⟨by (with_reducible repeat (first | apply Kd.R_alloc | apply Kd.R_drewN | apply Kd.R_drew)); exact Kd.R_mono (Kd.R_far (p := ⟨gb204, 4, none⟩) (Kd.R_far (p := ⟨gb204, 3, none⟩) (Kd.R_far (p := ⟨gb204, 2, none⟩) (Kd.R_far (p := ⟨gb204, 1, none⟩) (Kd.R_far (p := ⟨gb204, 0, none⟩) (Kd.R_types HO_189003.out BK204.out (by decide)) (fun _ hk => hk.2) (.int .i64 t191)) (fun _ hk => hk.2) (.int .i64 t192)) (fun _ hk => hk.2) (.int .i64 t193)) (fun _ hk => hk.2) (.slice Ao40 t194.length co40)) (fun _ hk => hk.2) (.slice Ao41 t197.length co41)) (fun _ hk => hk.1.2)⟩
         have n2_ : Aside0 (Kd.R k50 50 (((((w34.setCell ⟨gb204, 0, none⟩ (.int .i64 t191)).setCell ⟨gb204, 1, none⟩ (.int .i64 t192)).setCell ⟨gb204, 2, none⟩ (.int .i64 t193)).setCell ⟨gb204, 3, none⟩ (.slice Ao40 t194.length co40)).setCell ⟨gb204, 4, none⟩ (.slice Ao41 t197.length co41)) w.heap.size (fun k_ => some k_ ≠ (.slice Ao41 t197.length co41 : Value).ownBlock) (.slice Ao32 x189004_1.length co32) x189004_1) := ⟨by (with_reducible repeat (first | apply Kd.R_alloc | apply Kd.R_drewN | apply Kd.R_drew)); exact Kd.R_mono (Kd.R_far (p := ⟨gb204, 4, none⟩) (Kd.R_far (p := ⟨gb204, 3, none⟩) (Kd.R_far (p := ⟨gb204, 2, none⟩) (Kd.R_far (p := ⟨gb204, 1, none⟩) (Kd.R_far (p := ⟨gb204, 0, none⟩) (Kd.R_types HO_189004.out BK204.out (by decide)) (fun _ hk => hk.2) (.int .i64 t191)) (fun _ hk => hk.2) (.int .i64 t192)) (fun _ hk => hk.2) (.int .i64 t193)) (fun _ hk => hk.2) (.slice Ao40 t194.length co40)) (fun _ hk => hk.2) (.slice Ao41 t197.length co41)) (fun _ hk => hk.1.2)⟩
         have n3_ : Aside0 (Kd.R (Kd.int .i64) 3 (((((w34.setCell ⟨gb204, 0, none⟩ (.int .i64 t191)).setCell ⟨gb204, 1, none⟩ (.int .i64 t192)).setCell ⟨gb204, 2, none⟩ (.int .i64 t193)).setCell ⟨gb204, 3, none⟩ (.slice Ao40 t194.length co40)).setCell ⟨gb204, 4, none⟩ (.slice Ao41 t197.length co41)) w.heap.size (fun k_ => some k_ ≠ (.slice Ao31 x189003_1.length co31 : Value).ownBlock) (.slice Ao40 t194.length co40) t194) := ⟨by (with_reducible repeat (first | apply Kd.R_alloc | apply Kd.R_drewN | apply Kd.R_drew)); exact Kd.R_mono (Kd.R_far (p := ⟨gb204, 4, none⟩) (Kd.R_far (p := ⟨gb204, 3, none⟩) (Kd.R_far (p := ⟨gb204, 2, none⟩) (Kd.R_far (p := ⟨gb204, 1, none⟩) (Kd.R_far (p := ⟨gb204, 0, none⟩) (Kd.R_types HO196.out BK204.out (by decide)) (fun _ hk => hk.2) (.int .i64 t191)) (fun _ hk => hk.2) (.int .i64 t192)) (fun _ hk => hk.2) (.int .i64 t193)) (fun _ hk => hk.2) (.slice Ao40 t194.length co40)) (fun _ hk => hk.2) (.slice Ao41 t197.length co41)) (fun _ hk => hk.1.2)⟩
         have n4_ : Aside0 (Kd.R k50 50 (((((w34.setCell ⟨gb204, 0, none⟩ (.int .i64 t191)).setCell ⟨gb204, 1, none⟩ (.int .i64 t192)).setCell ⟨gb204, 2, none⟩ (.int .i64 t193)).setCell ⟨gb204, 3, none⟩ (.slice Ao40 t194.length co40)).setCell ⟨gb204, 4, none⟩ (.slice Ao41 t197.length co41)) w.heap.size (fun k_ => some k_ ≠ (.slice Ao32 x189004_1.length co32 : Value).ownBlock) (.slice Ao41 t197.length co41) t197) := ⟨by (with_reducible repeat (first | apply Kd.R_alloc | apply Kd.R_drewN | apply Kd.R_drew)); exact Kd.R_mono (Kd.R_far (p := ⟨gb204, 4, none⟩) (Kd.R_far (p := ⟨gb204, 3, none⟩) (Kd.R_far (p := ⟨gb204, 2, none⟩) (Kd.R_far (p := ⟨gb204, 1, none⟩) (Kd.R_far (p := ⟨gb204, 0, none⟩) (Kd.R_types HO199.out BK204.out (by decide)) (fun _ hk => hk.2) (.int .i64 t191)) (fun _ hk => hk.2) (.int .i64 t192)) (fun _ hk => hk.2) (.int .i64 t193)) (fun _ hk => hk.2) (.slice Ao40 t194.length co40)) (fun _ hk => hk.2) (.slice Ao41 t197.length co41)) (fun _ hk => hk.1.2)⟩
         have n5_ : Aside0 (Kd.R k52 52 (((((w34.setCell ⟨gb204, 0, none⟩ (.int .i64 t191)).setCell ⟨gb204, 1, none⟩ (.int .i64 t192)).setCell ⟨gb204, 2, none⟩ (.int .i64 t193)).setCell ⟨gb204, 3, none⟩ (.slice Ao40 t194.length co40)).setCell ⟨gb204, 4, none⟩ (.slice Ao41 t197.length co41)) w.heap.size (fun k_ => some k_ ≠ (u12 : Value).ownBlock) v201 t200) := ⟨by (with_reducible repeat (first | apply Kd.R_alloc | apply Kd.R_drewN | apply Kd.R_drew)); exact Kd.R_mono (Kd.R_far (p := ⟨gb204, 4, none⟩) (Kd.R_far (p := ⟨gb204, 3, none⟩) (Kd.R_far (p := ⟨gb204, 2, none⟩) (Kd.R_far (p := ⟨gb204, 1, none⟩) (Kd.R_far (p := ⟨gb204, 0, none⟩) (Kd.R_types HO202.out BK204.out (by decide)) (fun _ hk => hk.2) (.int .i64 t191)) (fun _ hk => hk.2) (.int .i64 t192)) (fun _ hk => hk.2) (.int .i64 t193)) (fun _ hk => hk.2) (.slice Ao40 t194.length co40)) (fun _ hk => hk.2) (.slice Ao41 t197.length co41)) (fun _ hk => hk.1.2)⟩
         have n6_ : Aside0 ((((((w34.setCell ⟨gb204, 0, none⟩ (.int .i64 t191)).setCell ⟨gb204, 1, none⟩ (.int .i64 t192)).setCell ⟨gb204, 2, none⟩ (.int .i64 t193)).setCell ⟨gb204, 3, none⟩ (.slice Ao40 t194.length co40)).setCell ⟨gb204, 4, none⟩ (.slice Ao41 t197.length co41)).heap[gb176]? = some (.cells #[.int .i64 a1_0, .int .i64 a1_1, .slice A1_2 l1_2.length c1_2] 27 (0, 0))) := ⟨by (with_reducible repeat (first | refine blk_drewN ?_ _ | refine blk_drew ?_ | refine blk_alloc ?_ _)); refine blk_far ?_ NB176_204.out _; (with_reducible repeat (first | refine blk_drewN ?_ _ | refine blk_drew ?_ | refine blk_alloc ?_ _)); refine blk_far ?_ NB176_204.out _; (with_reducible repeat (first | refine blk_drewN ?_ _ | refine blk_drew ?_ | refine blk_alloc ?_ _)); refine blk_far ?_ NB176_204.out _; (with_reducible repeat (first | refine blk_drewN ?_ _ | refine blk_drew ?_ | refine blk_alloc ?_ _)); refine blk_far ?_ NB176_204.out _; (with_reducible repeat (first | refine blk_drewN ?_ _ | refine blk_drew ?_ | refine blk_alloc ?_ _)); refine blk_far ?_ NB176_204.out _; (with_reducible repeat (first | refine blk_drewN ?_ _ | refine blk_drew ?_ | refine blk_alloc ?_ _)); exact BK176.out⟩
         have n7_ : Aside0 ((((((w34.setCell ⟨gb204, 0, none⟩ (.int .i64 t191)).setCell ⟨gb204, 1, none⟩ (.int .i64 t192)).setCell ⟨gb204, 2, none⟩ (.int .i64 t193)).setCell ⟨gb204, 3, none⟩ (.slice Ao40 t194.length co40)).setCell ⟨gb204, 4, none⟩ (.slice Ao41 t197.length co41)).heap[gb177]? = some (.cells #[.int .i64 x178000_1, .int .i64 x178001_1, .int .i64 x178002_1, .slice none 0 0, .slice none 0 0] 30 (0, 0))) := ⟨by (with_reducible repeat (first | refine blk_drewN ?_ _ | refine blk_drew ?_ | refine blk_alloc ?_ _)); refine blk_far ?_ NB177_204.out _; (with_reducible repeat (first | refine blk_drewN ?_ _ | refine blk_drew ?_ | refine blk_alloc ?_ _)); refine blk_far ?_ NB177_204.out _; (with_reducible repeat (first | refine blk_drewN ?_ _ | refine blk_drew ?_ | refine blk_alloc ?_ _)); refine blk_far ?_ NB177_204.out _; (with_reducible repeat (first | refine blk_drewN ?_ _ | refine blk_drew ?_ | refine blk_alloc ?_ _)); refine blk_far ?_ NB177_204.out _; (with_reducible repeat (first | refine blk_drewN ?_ _ | refine blk_drew ?_ | refine blk_alloc ?_ _)); refine blk_far ?_ NB177_204.out _; (with_reducible repeat (first | refine blk_drewN ?_ _ | refine blk_drew ?_ | refine blk_alloc ?_ _)); exact BK177.out⟩
         have n8_ : Aside0 ((((((w34.setCell ⟨gb204, 0, none⟩ (.int .i64 t191)).setCell ⟨gb204, 1, none⟩ (.int .i64 t192)).setCell ⟨gb204, 2, none⟩ (.int .i64 t193)).setCell ⟨gb204, 3, none⟩ (.slice Ao40 t194.length co40)).setCell ⟨gb204, 4, none⟩ (.slice Ao41 t197.length co41)).heap[gb188]? = some (.cells #[.int .i64 x189000_1, .int .i64 x189001_1, .int .i64 x189002_1, .slice Ao31 x189003_1.length co31, .slice Ao32 x189004_1.length co32] 30 (0, 0))) := ⟨by (with_reducible repeat (first | refine blk_drewN ?_ _ | refine blk_drew ?_ | refine blk_alloc ?_ _)); refine blk_far ?_ NB188_204.out _; (with_reducible repeat (first | refine blk_drewN ?_ _ | refine blk_drew ?_ | refine blk_alloc ?_ _)); refine blk_far ?_ NB188_204.out _; (with_reducible repeat (first | refine blk_drewN ?_ _ | refine blk_drew ?_ | refine blk_alloc ?_ _)); refine blk_far ?_ NB188_204.out _; (with_reducible repeat (first | refine blk_drewN ?_ _ | refine blk_drew ?_ | refine blk_alloc ?_ _)); refine blk_far ?_ NB188_204.out _; (with_reducible repeat (first | refine blk_drewN ?_ _ | refine blk_drew ?_ | refine blk_alloc ?_ _)); refine blk_far ?_ NB188_204.out _; (with_reducible repeat (first | refine blk_drewN ?_ _ | refine blk_drew ?_ | refine blk_alloc ?_ _)); exact BK188.out⟩
         have n9_ : Aside0 ((((((w34.setCell ⟨gb204, 0, none⟩ (.int .i64 t191)).setCell ⟨gb204, 1, none⟩ (.int .i64 t192)).setCell ⟨gb204, 2, none⟩ (.int .i64 t193)).setCell ⟨gb204, 3, none⟩ (.slice Ao40 t194.length co40)).setCell ⟨gb204, 4, none⟩ (.slice Ao41 t197.length co41)).heap[gb190]? = some (.cells #[.int .i64 ((rd_T47 l2 x30_1).f0), .int .i64 ((rd_T47 l2 x30_1).f1), .int .i64 ((rd_T47 l2 x30_1).f2), .int .i64 ((rd_T47 l2 x30_1).f3)] 47 (0, 0))) := ⟨by (with_reducible repeat (first | refine blk_drewN ?_ _ | refine blk_drew ?_ | refine blk_alloc ?_ _)); refine blk_far ?_ NB190_204.out _; (with_reducible repeat (first | refine blk_drewN ?_ _ | refine blk_drew ?_ | refine blk_alloc ?_ _)); refine blk_far ?_ NB190_204.out _; (with_reducible repeat (first | refine blk_drewN ?_ _ | refine blk_drew ?_ | refine blk_alloc ?_ _)); refine blk_far ?_ NB190_204.out _; (with_reducible repeat (first | refine blk_drewN ?_ _ | refine blk_drew ?_ | refine blk_alloc ?_ _)); refine blk_far ?_ NB190_204.out _; (with_reducible repeat (first | refine blk_drewN ?_ _ | refine blk_drew ?_ | refine blk_alloc ?_ _)); refine blk_far ?_ NB190_204.out _; (with_reducible repeat (first | refine blk_drewN ?_ _ | refine blk_drew ?_ | refine blk_alloc ?_ _)); exact BK190.out⟩
         have n10_ : Aside0 ((((((w34.setCell ⟨gb204, 0, none⟩ (.int .i64 t191)).setCell ⟨gb204, 1, none⟩ (.int .i64 t192)).setCell ⟨gb204, 2, none⟩ (.int .i64 t193)).setCell ⟨gb204, 3, none⟩ (.slice Ao40 t194.length co40)).setCell ⟨gb204, 4, none⟩ (.slice Ao41 t197.length co41)).heap[gb204]? = some (.cells #[.int .i64 t191, .int .i64 t192, .int .i64 t193, .slice Ao40 t194.length co40, .slice Ao41 t197.length co41] 30 (0, 0))) := ⟨by (with_reducible repeat (first | refine blk_drewN ?_ _ | refine blk_drew ?_ | refine blk_alloc ?_ _)); refine blk_put (cs := #[.int .i64 t191, .int .i64 t192, .int .i64 t193, .slice Ao40 t194.length co40, .slice none 0 0]) ?_ 4 _ rfl; (with_reducible repeat (first | refine blk_drewN ?_ _ | refine blk_drew ?_ | refine blk_alloc ?_ _)); refine blk_put (cs := #[.int .i64 t191, .int .i64 t192, .int .i64 t193, .slice none 0 0, .slice none 0 0]) ?_ 3 _ rfl; (with_reducible repeat (first | refine blk_drewN ?_ _ | refine blk_drew ?_ | refine blk_alloc ?_ _)); refine blk_put (cs := #[.int .i64 t191, .int .i64 t192, .int .i64 0, .slice none 0 0, .slice none 0 0]) ?_ 2 _ rfl; (with_reducible repeat (first | refine blk_drewN ?_ _ | refine blk_drew ?_ | refine blk_alloc ?_ _)); refine blk_put (cs := #[.int .i64 t191, .int .i64 0, .int .i64 0, .slice none 0 0, .slice none 0 0]) ?_ 1 _ rfl; (with_reducible repeat (first | refine blk_drewN ?_ _ | refine blk_drew ?_ | refine blk_alloc ?_ _)); refine blk_put (cs := #[.int .i64 0, .int .i64 0, .int .i64 0, .slice none 0 0, .slice none 0 0]) ?_ 0 _ rfl; (with_reducible repeat (first | refine blk_drewN ?_ _ | refine blk_drew ?_ | refine blk_alloc ?_ _)); exact BK204.out⟩
         have n11_ : Aside0 (Below w.heap.size w (((((w34.setCell ⟨gb204, 0, none⟩ (.int .i64 t191)).setCell ⟨gb204, 1, none⟩ (.int .i64 t192)).setCell ⟨gb204, 2, none⟩ (.int .i64 t193)).setCell ⟨gb204, 3, none⟩ (.slice Ao40 t194.length co40)).setCell ⟨gb204, 4, none⟩ (.slice Ao41 t197.length co41))) := ⟨pB HB⟩
         (try clear HO_12)
         (try clear HO_189003)
         (try clear HO_189004)
         (try clear HO196)
         (try clear HO199)
         (try clear HO202)
         (try clear BK176)
         (try clear BK177)
         (try clear BK188)
         (try clear BK190)
         (try clear BK204)
         (try clear HB)
         generalize (((((w34.setCell ⟨gb204, 0, none⟩ (.int .i64 t191)).setCell ⟨gb204, 1, none⟩ (.int .i64 t192)).setCell ⟨gb204, 2, none⟩ (.int .i64 t193)).setCell ⟨gb204, 3, none⟩ (.slice Ao40 t194.length co40)).setCell ⟨gb204, 4, none⟩ (.slice Ao41 t197.length co41)) = w42 at n0_ n1_ n2_ n3_ n4_ n5_ n6_ n7_ n8_ n9_ n10_ n11_ ⊢
         have HO_12 := n0_
         have HO_189003 := n1_
         have HO_189004 := n2_
         have HO196 := n3_
         have HO199 := n4_
         have HO202 := n5_
         have BK176 := n6_
         have BK177 := n7_
         have BK188 := n8_
         have BK190 := n9_
         have BK204 := n10_
         have HB := n11_
         clear n0_ n1_ n2_ n3_ n4_ n5_ n6_ n7_ n8_ n9_ n10_ n11_
         replace HO_12 := Aside0.mk (Kd.R_drew HO_12.out)
         replace HO_189003 := Aside0.mk (Kd.R_drew HO_189003.out)
         replace HO_189004 := Aside0.mk (Kd.R_drew HO_189004.out)
         replace HO196 := Aside0.mk (Kd.R_drew HO196.out)
         replace HO199 := Aside0.mk (Kd.R_drew HO199.out)
         replace HO202 := Aside0.mk (Kd.R_drew HO202.out)
         replace BK176 := Aside0.mk (blk_drew BK176.out)
         replace BK177 := Aside0.mk (blk_drew BK177.out)
         replace BK188 := Aside0.mk (blk_drew BK188.out)
         replace BK190 := Aside0.mk (blk_drew BK190.out)
         replace BK204 := Aside0.mk (blk_drew BK204.out)
         replace HB := Aside0.mk (below_drew1 HB.out)
         obtain ⟨Ao45, co45, eo45⟩ := Kd.R_slice HO202.out
         (first | subst eo45 | (injection eo45 with f1_ f2_ f3_; have f4_ := f1_.symm; have f5_ := f3_.symm; clear f1_ f2_ f3_; subst f4_; subst f5_))
         refine start_ (n := 6) (S := fun w' => w'.cell? ⟨gb204, 0, none⟩ = some (.int .i64 t191) ∧ w'.cell? ⟨gb204, 1, none⟩ = some (.int .i64 t192) ∧ w'.cell? ⟨gb204, 2, none⟩ = some (.int .i64 t193) ∧ w'.cell? ⟨gb204, 3, none⟩ = some (.slice Ao40 t194.length co40) ∧ w'.cell? ⟨gb204, 4, none⟩ = some (.slice Ao41 t197.length co41)) (ds := []) #[false, false, false, false, false, false] (by kernel_rfl) rfl rfl ⟨(blk_cell BK204.out 0).trans rfl, (blk_cell BK204.out 1).trans rfl, (blk_cell BK204.out 2).trans rfl, (blk_cell BK204.out 3).trans rfl, (blk_cell BK204.out 4).trans rfl⟩ (fun hHeld => ?_)
         generalize w42.drew = w43 at HO_12 HO_189003 HO_189004 HO196 HO199 HO202 BK176 BK177 BK188 BK190 BK204 HB hHeld ⊢
         refine pure_ (i := 1) (N := some 48) (v := ?_) (a' := ?_) #[false, true, false, false, false, false] rfl rfl (by kernel_rfl) (fun _ _ _ h => h) (Or.inl ⟨by rfl, ?_⟩) ?_ ?_
         rotate_left
         ·intro w'
          go_simp
          with_reducible rfl
         rotate_left
         ·simp only [Act.put, List.setIfInBounds_toArray, List.set_cons_zero, List.set_cons_succ, i64_w, i32_w]
          rfl
         refine pure_ (i := 2) (N := some 49) (v := ?_) (a' := ?_) #[false, true, true, false, false, false] rfl rfl (by kernel_rfl) (fun _ _ _ h => h) (Or.inl ⟨by rfl, ?_⟩) ?_ ?_
         rotate_left
         ·intro w'
          go_simp
          with_reducible rfl
         rotate_left
         ·simp only [Act.put, List.setIfInBounds_toArray, List.set_cons_zero, List.set_cons_succ, i64_w, i32_w]
          rfl
         refine take_ (i := 0) (N := some 47) (v := ?_) (a' := ?_) #[true, true, true, false, false, false] rfl rfl (by kernel_rfl) (fun _ _ _ h => h) (Or.inl ⟨by rfl, ?_⟩) hHeld ?_ ?_
         rotate_left
         ·rintro w' ⟨s0, s1, s2, s3, s4⟩
          go_simp
          with_reducible rfl
         rotate_left
         ·simp only [Act.put, List.setIfInBounds_toArray, List.set_cons_zero, List.set_cons_succ, i64_w, i32_w]
          rfl
         refine one_ (i := 3) (N := some 50) #[true, true, true, true, false, false] rfl rfl (by kernel_rfl) (by decide) (fun K hK => ?_)
         refine Kd.R_append_rows_step k52 (w0 := w) w.heap.size (by rfl) (.tmp 48) (.tmp 49) 32 52 (.agg #[(.int .i64 0), (.int .i64 0), (.int .i64 0)]) 24 rfl Try.underlying32 info52 rfl (by decide) (by omega) u12 x12_1 t200 _ _ _ (fun k_ => some k_ ≠ (.slice Ao45 t200.length co45 : Value).ownBlock) (fun _ => False) rfl rfl ?aO ?aR (fun _ _ h => h) (fun _ h => h.elim) ?aF ?aB ?aS ?aL ?_
         (case aR => repeat (first | exact (Kd.R_reads' HO202.out).2.2 | (with_reducible refine Kd.C_alloc ?_ _) | (with_reducible refine Kd.C_drewN ?_ _) | (with_reducible refine Kd.C_drew ?_)))
         (case aB => exact (pB HB))
         (case aF => exact (fun k_ hk => Kd.fresh' (Kd.R_lt (by (with_reducible repeat (first | apply Kd.R_alloc | apply Kd.R_drewN | apply Kd.R_drew)); exact HO202.out)) k_ hk))
         (case aO => exact (by (with_reducible repeat (first | apply Kd.R_alloc | apply Kd.R_drewN | apply Kd.R_drew)); exact HO_12.out))
         (case aS => exact (below_size (pB HB)))
         (case aL => have := LMc22.out; omega)
         intro v206 w44 ho hb hg hat
         rw [← Ny205.out] at ho
         have n0_ := Aside0.mk (Kd.R_over' (by (with_reducible repeat (first | apply Kd.R_alloc | apply Kd.R_drewN | apply Kd.R_drew)); exact HO_189003.out) (Kd.R_typed (by (with_reducible repeat (first | apply Kd.R_alloc | apply Kd.R_drewN | apply Kd.R_drew)); exact HO_12.out)) (by decide) hg)
         have n1_ := Aside0.mk (Kd.R_over' (by (with_reducible repeat (first | apply Kd.R_alloc | apply Kd.R_drewN | apply Kd.R_drew)); exact HO_189004.out) (Kd.R_typed (by (with_reducible repeat (first | apply Kd.R_alloc | apply Kd.R_drewN | apply Kd.R_drew)); exact HO_12.out)) (by decide) hg)
         have n2_ := Aside0.mk (blk_grown (g := gb176) (o := .cells #[.int .i64 a1_0, .int .i64 a1_1, .slice A1_2 l1_2.length c1_2] 27 (0, 0)) (by (with_reducible repeat (first | refine blk_drewN ?_ _ | refine blk_drew ?_ | refine blk_alloc ?_ _)); exact BK176.out) hg (Kd.R_ne HO_12.out BK176.out (by decide)))
         have n3_ := Aside0.mk (blk_grown (g := gb177) (o := .cells #[.int .i64 x178000_1, .int .i64 x178001_1, .int .i64 x178002_1, .slice none 0 0, .slice none 0 0] 30 (0, 0)) (by (with_reducible repeat (first | refine blk_drewN ?_ _ | refine blk_drew ?_ | refine blk_alloc ?_ _)); exact BK177.out) hg (Kd.R_ne HO_12.out BK177.out (by decide)))
         have n4_ := Aside0.mk (blk_grown (g := gb188) (o := .cells #[.int .i64 x189000_1, .int .i64 x189001_1, .int .i64 x189002_1, .slice Ao31 x189003_1.length co31, .slice Ao32 x189004_1.length co32] 30 (0, 0)) (by (with_reducible repeat (first | refine blk_drewN ?_ _ | refine blk_drew ?_ | refine blk_alloc ?_ _)); exact BK188.out) hg (Kd.R_ne HO_12.out BK188.out (by decide)))
         have n5_ := Aside0.mk (blk_grown (g := gb190) (o := .cells #[.int .i64 ((rd_T47 l2 x30_1).f0), .int .i64 ((rd_T47 l2 x30_1).f1), .int .i64 ((rd_T47 l2 x30_1).f2), .int .i64 ((rd_T47 l2 x30_1).f3)] 47 (0, 0)) (by (with_reducible repeat (first | refine blk_drewN ?_ _ | refine blk_drew ?_ | refine blk_alloc ?_ _)); exact BK190.out) hg (Kd.R_ne HO_12.out BK190.out (by decide)))
         have n6_ := Aside0.mk (Kd.R_over' (by (with_reducible repeat (first | apply Kd.R_alloc | apply Kd.R_drewN | apply Kd.R_drew)); exact HO196.out) (Kd.R_typed (by (with_reducible repeat (first | apply Kd.R_alloc | apply Kd.R_drewN | apply Kd.R_drew)); exact HO_12.out)) (by decide) hg)
         have n7_ := Aside0.mk (Kd.R_over' (by (with_reducible repeat (first | apply Kd.R_alloc | apply Kd.R_drewN | apply Kd.R_drew)); exact HO199.out) (Kd.R_typed (by (with_reducible repeat (first | apply Kd.R_alloc | apply Kd.R_drewN | apply Kd.R_drew)); exact HO_12.out)) (by decide) hg)
         have n8_ := Aside0.mk (Kd.R_after (ok := (fun _ => True)) (by (with_reducible repeat (first | apply Kd.R_alloc | apply Kd.R_drewN | apply Kd.R_drew)); exact Kd.R_mono HO202.out (fun _ hk => ⟨trivial, hk⟩)) hg hat)
         have n9_ := Aside0.mk (blk_grown (g := gb204) (o := .cells #[.int .i64 t191, .int .i64 t192, .int .i64 t193, .slice Ao40 t194.length co40, .slice Ao41 t197.length co41] 30 (0, 0)) (by (with_reducible repeat (first | refine blk_drewN ?_ _ | refine blk_drew ?_ | refine blk_alloc ?_ _)); exact BK204.out) hg (Kd.R_ne HO_12.out BK204.out (by decide)))
         have n10_ := Aside0.mk (hb)
         have n11_ := Aside0.mk (ho)
         clear HO_189003
         clear HO_189004
         clear BK176
         clear BK177
         clear BK188
         clear BK190
         clear HO196
         clear HO199
         clear HO202
         clear BK204
         clear HB
         clear HO_12
         have HO_189003 := n0_
         have HO_189004 := n1_
         have BK176 := n2_
         have BK177 := n3_
         have BK188 := n4_
         have BK190 := n5_
         have HO196 := n6_
         have HO199 := n7_
         have HO202 := n8_
         have BK204 := n9_
         have HB := n10_
         have HO207 := n11_
         clear n0_ n1_ n2_ n3_ n4_ n5_ n6_ n7_ n8_ n9_ n10_ n11_
         clear ho hb hg hat
         refine hK.out _ _ ⟨(blk_cell BK204.out 0).trans rfl, (blk_cell BK204.out 1).trans rfl, (blk_cell BK204.out 2).trans rfl, (blk_cell BK204.out 3).trans rfl, (blk_cell BK204.out 4).trans rfl⟩ (fun hHeld => ?_)
         clear hK K
         refine norm_ (a' := ?_) ?_ ?_
         rotate_left
         ·show Act.put _ (some 50) _ = _
          simp only [Act.put, List.setIfInBounds_toArray, List.set_cons_zero, List.set_cons_succ, i64_w, i32_w]
          rfl
         refine one_ (i := 4) (N := none) #[true, true, true, true, true, false] rfl rfl (by kernel_rfl) (by decide) (fun K hK => ?_)
         have hs46 : w44.cell? ⟨gb188, 0, none⟩ = some (.int .i64 x189000_1) := (blk_cell BK188.out 0).trans rfl
         have hfs46 := blk_frozen BK188.out 0
         have hns46_0 := NB176_188.out
         have hns46_1 := NB177_188.out
         have hns46_3 := NB190_188.out
         have hns46_4 := NB204_188.out
         have hms46_0 := NB188_176.out
         have hms46_1 := NB188_177.out
         have hms46_3 := NB188_190.out
         have hms46_4 := NB188_204.out
         have hs47 : w44.cell? ⟨gb188, 1, none⟩ = some (.int .i64 x189001_1) := (blk_cell BK188.out 1).trans rfl
         have hfs47 := blk_frozen BK188.out 1
         have hns47_0 := NB176_188.out
         have hns47_1 := NB177_188.out
         have hns47_3 := NB190_188.out
         have hns47_4 := NB204_188.out
         have hms47_0 := NB188_176.out
         have hms47_1 := NB188_177.out
         have hms47_3 := NB188_190.out
         have hms47_4 := NB188_204.out
         have hs48 : w44.cell? ⟨gb188, 2, none⟩ = some (.int .i64 x189002_1) := (blk_cell BK188.out 2).trans rfl
         have hfs48 := blk_frozen BK188.out 2
         have hns48_0 := NB176_188.out
         have hns48_1 := NB177_188.out
         have hns48_3 := NB190_188.out
         have hns48_4 := NB204_188.out
         have hms48_0 := NB188_176.out
         have hms48_1 := NB188_177.out
         have hms48_3 := NB188_190.out
         have hms48_4 := NB188_204.out
         have hs49 : w44.cell? ⟨gb188, 3, none⟩ = some (.slice Ao31 x189003_1.length co31) := (blk_cell BK188.out 3).trans rfl
         have hfs49 := blk_frozen BK188.out 3
         have hns49_0 := NB176_188.out
         have hns49_1 := NB177_188.out
         have hns49_3 := NB190_188.out
         have hns49_4 := NB204_188.out
         have hms49_0 := NB188_176.out
         have hms49_1 := NB188_177.out
         have hms49_3 := NB188_190.out
         have hms49_4 := NB188_204.out
         have hs50 : w44.cell? ⟨gb188, 4, none⟩ = some (.slice Ao32 x189004_1.length co32) := (blk_cell BK188.out 4).trans rfl
         have hfs50 := blk_frozen BK188.out 4
         have hns50_0 := NB176_188.out
         have hns50_1 := NB177_188.out
         have hns50_3 := NB190_188.out
         have hns50_4 := NB204_188.out
         have hms50_0 := NB188_176.out
         have hms50_1 := NB188_177.out
         have hms50_3 := NB188_190.out
         have hms50_4 := NB188_204.out
         refine skip_ (w1 := ?_) (by rfl) rfl ?_ ?_
         rotate_left
         ·go_simp
          rfl
         refine hK.out _ _ ⟨((cell_far (p := ⟨gb188, _, none⟩) NB204_188.out _).trans (((cell_far (p := ⟨gb188, _, none⟩) NB204_188.out _).trans (((cell_far (p := ⟨gb188, _, none⟩) NB204_188.out _).trans (((cell_far (p := ⟨gb188, _, none⟩) NB204_188.out _).trans (((cell_far (p := ⟨gb188, _, none⟩) NB204_188.out _).trans (hHeld.1)))))))))), ((cell_far (p := ⟨gb188, _, none⟩) NB204_188.out _).trans (((cell_far (p := ⟨gb188, _, none⟩) NB204_188.out _).trans (((cell_far (p := ⟨gb188, _, none⟩) NB204_188.out _).trans (((cell_far (p := ⟨gb188, _, none⟩) NB204_188.out _).trans (((cell_far (p := ⟨gb188, _, none⟩) NB204_188.out _).trans (hHeld.2.1)))))))))), ((cell_far (p := ⟨gb188, _, none⟩) NB204_188.out _).trans (((cell_far (p := ⟨gb188, _, none⟩) NB204_188.out _).trans (((cell_far (p := ⟨gb188, _, none⟩) NB204_188.out _).trans (((cell_far (p := ⟨gb188, _, none⟩) NB204_188.out _).trans (((cell_far (p := ⟨gb188, _, none⟩) NB204_188.out _).trans (hHeld.2.2.1)))))))))), ((cell_far (p := ⟨gb188, _, none⟩) NB204_188.out _).trans (((cell_far (p := ⟨gb188, _, none⟩) NB204_188.out _).trans (((cell_far (p := ⟨gb188, _, none⟩) NB204_188.out _).trans (((cell_far (p := ⟨gb188, _, none⟩) NB204_188.out _).trans (((cell_far (p := ⟨gb188, _, none⟩) NB204_188.out _).trans (hHeld.2.2.2.1)))))))))), ((cell_far (p := ⟨gb188, _, none⟩) NB204_188.out _).trans (((cell_far (p := ⟨gb188, _, none⟩) NB204_188.out _).trans (((cell_far (p := ⟨gb188, _, none⟩) NB204_188.out _).trans (((cell_far (p := ⟨gb188, _, none⟩) NB204_188.out _).trans (((cell_far (p := ⟨gb188, _, none⟩) NB204_188.out _).trans (hHeld.2.2.2.2))))))))))⟩ (fun hHeld => ?_)
         clear hK K
         refine pure_ (i := 5) (N := some 12) (v := ?_) (a' := ?_) #[true, true, true, true, true, true] rfl rfl (by kernel_rfl) (fun _ _ _ h => h) (Or.inl ⟨by rfl, ?_⟩) ?_ ?_
         rotate_left
         ·intro w'
          go_simp
          with_reducible rfl
         rotate_left
         ·simp only [Act.put, List.setIfInBounds_toArray, List.set_cons_zero, List.set_cons_succ, i64_w, i32_w]
          rfl
         refine done_ (by kernel_rfl) ?_
         try go_wp2
         go_roundg k1
         case measure => have := HK1.out; omega
         case rel => exact ⟨(y205), (wrap64 (x30_1 + 1)), (x178000_1), (x178001_1), (x178002_1), (t191), (t192), (t193), (t194), (t197), (.slice Ao40 t194.length co40), (.slice Ao41 t197.length co41), (by first | rfl | (simp; done) | (simp [*]; done)), H', ⟨by have := HK1.out; omega⟩, ⟨by (with_reducible repeat (first | apply Kd.R_alloc | apply Kd.R_drewN | apply Kd.R_drew)); exact Kd.R_mono (Kd.R_far (p := ⟨gb188, 4, none⟩) (Kd.R_far (p := ⟨gb188, 3, none⟩) (Kd.R_far (p := ⟨gb188, 2, none⟩) (Kd.R_far (p := ⟨gb188, 1, none⟩) (Kd.R_far (p := ⟨gb188, 0, none⟩) (Kd.R_types HO207.out BK188.out (by decide)) (fun _ hk => hk.2) (.int .i64 t191)) (fun _ hk => hk.2) (.int .i64 t192)) (fun _ hk => hk.2) (.int .i64 t193)) (fun _ hk => hk.2) (.slice Ao40 t194.length co40)) (fun _ hk => hk.2) (.slice Ao41 t197.length co41)) (fun _ hk => trivial)⟩, ⟨by (with_reducible repeat (first | apply Kd.R_alloc | apply Kd.R_drewN | apply Kd.R_drew)); exact Kd.R_mono (Kd.R_far (p := ⟨gb188, 4, none⟩) (Kd.R_far (p := ⟨gb188, 3, none⟩) (Kd.R_far (p := ⟨gb188, 2, none⟩) (Kd.R_far (p := ⟨gb188, 1, none⟩) (Kd.R_far (p := ⟨gb188, 0, none⟩) (Kd.R_types HO196.out BK188.out (by decide)) (fun _ hk => hk.2) (.int .i64 t191)) (fun _ hk => hk.2) (.int .i64 t192)) (fun _ hk => hk.2) (.int .i64 t193)) (fun _ hk => hk.2) (.slice Ao40 t194.length co40)) (fun _ hk => hk.2) (.slice Ao41 t197.length co41)) (fun _ hk => trivial)⟩, ⟨by (with_reducible repeat (first | apply Kd.R_alloc | apply Kd.R_drewN | apply Kd.R_drew)); exact Kd.R_mono (Kd.R_far (p := ⟨gb188, 4, none⟩) (Kd.R_far (p := ⟨gb188, 3, none⟩) (Kd.R_far (p := ⟨gb188, 2, none⟩) (Kd.R_far (p := ⟨gb188, 1, none⟩) (Kd.R_far (p := ⟨gb188, 0, none⟩) (Kd.R_types HO199.out BK188.out (by decide)) (fun _ hk => hk.2) (.int .i64 t191)) (fun _ hk => hk.2) (.int .i64 t192)) (fun _ hk => hk.2) (.int .i64 t193)) (fun _ hk => hk.2) (.slice Ao40 t194.length co40)) (fun _ hk => hk.2) (.slice Ao41 t197.length co41)) (fun _ hk => trivial)⟩, ⟨by (with_reducible repeat (first | refine blk_drewN ?_ _ | refine blk_drew ?_ | refine blk_alloc ?_ _)); refine blk_far ?_ NB176_188.out _; (with_reducible repeat (first | refine blk_drewN ?_ _ | refine blk_drew ?_ | refine blk_alloc ?_ _)); refine blk_far ?_ NB176_188.out _; (with_reducible repeat (first | refine blk_drewN ?_ _ | refine blk_drew ?_ | refine blk_alloc ?_ _)); refine blk_far ?_ NB176_188.out _; (with_reducible repeat (first | refine blk_drewN ?_ _ | refine blk_drew ?_ | refine blk_alloc ?_ _)); refine blk_far ?_ NB176_188.out _; (with_reducible repeat (first | refine blk_drewN ?_ _ | refine blk_drew ?_ | refine blk_alloc ?_ _)); refine blk_far ?_ NB176_188.out _; (with_reducible repeat (first | refine blk_drewN ?_ _ | refine blk_drew ?_ | refine blk_alloc ?_ _)); exact BK176.out⟩, ⟨by (with_reducible repeat (first | refine blk_drewN ?_ _ | refine blk_drew ?_ | refine blk_alloc ?_ _)); refine blk_far ?_ NB177_188.out _; (with_reducible repeat (first | refine blk_drewN ?_ _ | refine blk_drew ?_ | refine blk_alloc ?_ _)); refine blk_far ?_ NB177_188.out _; (with_reducible repeat (first | refine blk_drewN ?_ _ | refine blk_drew ?_ | refine blk_alloc ?_ _)); refine blk_far ?_ NB177_188.out _; (with_reducible repeat (first | refine blk_drewN ?_ _ | refine blk_drew ?_ | refine blk_alloc ?_ _)); refine blk_far ?_ NB177_188.out _; (with_reducible repeat (first | refine blk_drewN ?_ _ | refine blk_drew ?_ | refine blk_alloc ?_ _)); refine blk_far ?_ NB177_188.out _; (with_reducible repeat (first | refine blk_drewN ?_ _ | refine blk_drew ?_ | refine blk_alloc ?_ _)); exact BK177.out⟩, ⟨by (with_reducible repeat (first | refine blk_drewN ?_ _ | refine blk_drew ?_ | refine blk_alloc ?_ _)); refine blk_put (cs := #[.int .i64 t191, .int .i64 t192, .int .i64 t193, .slice Ao40 t194.length co40, .slice Ao32 x189004_1.length co32]) ?_ 4 _ rfl; (with_reducible repeat (first | refine blk_drewN ?_ _ | refine blk_drew ?_ | refine blk_alloc ?_ _)); refine blk_put (cs := #[.int .i64 t191, .int .i64 t192, .int .i64 t193, .slice Ao31 x189003_1.length co31, .slice Ao32 x189004_1.length co32]) ?_ 3 _ rfl; (with_reducible repeat (first | refine blk_drewN ?_ _ | refine blk_drew ?_ | refine blk_alloc ?_ _)); refine blk_put (cs := #[.int .i64 t191, .int .i64 t192, .int .i64 x189002_1, .slice Ao31 x189003_1.length co31, .slice Ao32 x189004_1.length co32]) ?_ 2 _ rfl; (with_reducible repeat (first | refine blk_drewN ?_ _ | refine blk_drew ?_ | refine blk_alloc ?_ _)); refine blk_put (cs := #[.int .i64 t191, .int .i64 x189001_1, .int .i64 x189002_1, .slice Ao31 x189003_1.length co31, .slice Ao32 x189004_1.length co32]) ?_ 1 _ rfl; (with_reducible repeat (first | refine blk_drewN ?_ _ | refine blk_drew ?_ | refine blk_alloc ?_ _)); refine blk_put (cs := #[.int .i64 x189000_1, .int .i64 x189001_1, .int .i64 x189002_1, .slice Ao31 x189003_1.length co31, .slice Ao32 x189004_1.length co32]) ?_ 0 _ rfl; (with_reducible repeat (first | refine blk_drewN ?_ _ | refine blk_drew ?_ | refine blk_alloc ?_ _)); exact BK188.out⟩, ⟨pB HB⟩⟩
        ·rw [if_neg c22] at H
         exact absurd H (by simp)
       ·rw [if_neg c21] at H
        have c21b0 : (t203 == 0) = false := beq_eq_false_iff_ne.mpr c21
        have c21b1 : (t203 != 0) = true := bne_iff_ne.mpr c21
        simp only [Option.some.injEq, Prod.mk.injEq] at H
        obtain ⟨rfl, rfl, rfl, rfl, rfl, rfl, rfl, rfl⟩ := H
        have p189 : 0 ≤ (x30_1 : Int) := of_decide_eq_true (by first | (with_reducible assumption) | assumption)
        have q189 : x30_1 < (l2.length : Int) := of_decide_eq_true (by first | (with_reducible assumption) | assumption)
        obtain ⟨ad189, e189, hx189_0, hx189_1, hx189_2, hx189_3⟩ := at_T47 HR2.out x30_1 p189 q189
        cases e189
        replace hx189_0 := (HB.out.cell (World.block_lt_of_cell? w _ hx189_0)).trans hx189_0
        replace hx189_1 := (HB.out.cell (World.block_lt_of_cell? w _ hx189_1)).trans hx189_1
        replace hx189_2 := (HB.out.cell (World.block_lt_of_cell? w _ hx189_2)).trans hx189_2
        replace hx189_3 := (HB.out.cell (World.block_lt_of_cell? w _ hx189_3)).trans hx189_3
        replace p189 := eq_true p189
        replace q189 := eq_true q189
        go_wp2_with (first | ((with_reducible refine gate_dst (N := 14) rfl ?_); refine boxE (N := 14) #[.int .i64 0, .int .i64 0, .int .i64 0, .int .i64 0] 47 ?_; intro gb190 hg w51 hbox hb; have BK190 := Aside0.mk (hbox); have GW190 := gS HB hg; have GE190 := gS HB hg; have NB176_190 := nL BK176 hg; have NB190_176 := nG BK176 hg; have NB177_190 := nL BK177 hg; have NB190_177 := nG BK177 hg; have NB188_190 := nL BK188 hg; have NB190_188 := nG BK188 hg; replace HO_12 := rB HO_12 hb; replace HO_189003 := rB HO_189003 hb; replace HO_189004 := rB HO_189004 hb; replace BK176 := bB BK176 hb; replace BK177 := bB BK177 hb; replace BK188 := bB BK188 hb; replace HB := Aside0.mk (below_step (pB HB) hb); clear hb hbox hg; have hnb52 := NB190_176.out; have hnc52 := NB176_190.out; have hnb53 := NB190_177.out; have hnc53 := NB177_190.out; have hnb54 := NB190_188.out; have hnc54 := NB188_190.out; obtain ⟨hcz55_0, hcz55_1, hcz55_2, hcz55_3⟩ := cells4 BK190; obtain ⟨hfz55_0, hfz55_1, hfz55_2, hfz55_3⟩ := frz4 BK190; have hnb56 := NB188_176.out; have hnc56 := NB176_188.out; have hnb57 := NB188_177.out; have hnc57 := NB177_188.out; obtain ⟨hcz58_0, hcz58_1, hcz58_2, hcz58_3, hcz58_4⟩ := cells5 BK188; obtain ⟨hfz58_0, hfz58_1, hfz58_2, hfz58_3, hfz58_4⟩ := frz5 BK188; obtain ⟨Ao59, co59, eo59⟩ := Kd.R_slice HO_189003.out; subst eo59; obtain ⟨Ao60, co60, eo60⟩ := Kd.R_slice HO_189004.out; subst eo60) | ((with_reducible refine gate_callee (f := 20) rfl ?_); refine goesL_ (some 38) rfl rfl Try.func20 (by kernel_rfl) rfl #[.agg #[.int .i64 x189000_1, .int .i64 x189001_1, .int .i64 x189002_1, .slice Ao59 x189003_1.length co59, .slice Ao60 x189004_1.length co60], .agg #[.int .i64 ((rd_T47 l2 x30_1).f0), .int .i64 ((rd_T47 l2 x30_1).f1), .int .i64 ((rd_T47 l2 x30_1).f2), .int .i64 ((rd_T47 l2 x30_1).f3)]] rfl (by (try simp only [List.map_toArray, List.map_cons, List.map_nil]); first | done | rfl | (simp only [List.length_drop, List.length_take]; rfl)) ?_; (with_reducible refine (docket_File.calls k1 x189000_1 x189001_1 x189002_1 _ _ x189003_1 _ _ x189004_1 ((rd_T47 l2 x30_1).f0) ((rd_T47 l2 x30_1).f1) ((rd_T47 l2 x30_1).f2) ((rd_T47 l2 x30_1).f3) t191 t192 t193 t194 t197 t200 t203 _ ?side1 ?side2 ?side3 ?side4 A20.out).mono ?_); (case side1 => refine (Kd.R_reads' (e := 3) (base := w.heap.size) (ok := fun k_ => True) (n := x189003_1.length) (c := co59) ?_).2.2; exact (by (with_reducible repeat (first | apply Kd.R_alloc | apply Kd.R_drewN | apply Kd.R_drew)); exact (Kd.R_mono (Kd.R_far (p := ⟨gb190, 3, none⟩) (Kd.R_far (p := ⟨gb190, 2, none⟩) (Kd.R_far (p := ⟨gb190, 1, none⟩) (Kd.R_far (p := ⟨gb190, 0, none⟩) (Kd.R_types HO_189003.out BK190.out (by decide)) (fun _ hk => hk.2) (.int .i64 ((rd_T47 l2 x30_1).f0))) (fun _ hk => hk.2) (.int .i64 ((rd_T47 l2 x30_1).f1))) (fun _ hk => hk.2) (.int .i64 ((rd_T47 l2 x30_1).f2))) (fun _ hk => hk.2) (.int .i64 ((rd_T47 l2 x30_1).f3))) (fun _ h_ => h_.1)))); (case side2 => exact (Kd.R_reads' HO_189003.out).2.1); (case side3 => refine (Kd.R_reads' (e := 50) (base := w.heap.size) (ok := fun k_ => True) (n := x189004_1.length) (c := co60) ?_).2.2; exact (by (with_reducible repeat (first | apply Kd.R_alloc | apply Kd.R_drewN | apply Kd.R_drew)); exact (Kd.R_mono (Kd.R_far (p := ⟨gb190, 3, none⟩) (Kd.R_far (p := ⟨gb190, 2, none⟩) (Kd.R_far (p := ⟨gb190, 1, none⟩) (Kd.R_far (p := ⟨gb190, 0, none⟩) (Kd.R_types HO_189004.out BK190.out (by decide)) (fun _ hk => hk.2) (.int .i64 ((rd_T47 l2 x30_1).f0))) (fun _ hk => hk.2) (.int .i64 ((rd_T47 l2 x30_1).f1))) (fun _ hk => hk.2) (.int .i64 ((rd_T47 l2 x30_1).f2))) (fun _ hk => hk.2) (.int .i64 ((rd_T47 l2 x30_1).f3))) (fun _ h_ => h_.1)))); (case side4 => exact (Kd.R_reads' HO_189004.out).2.1); rintro e w61 ⟨v195, v198, v201, rfl, ho0, ho1, ho2, hb⟩; refine ⟨_, rfl, ?_⟩; have HO196 := Aside0.mk (Kd.R_lower (Kd.R_new' ho0 (Kd.R_lt (by (with_reducible repeat (first | apply Kd.R_alloc | apply Kd.R_drewN | apply Kd.R_drew)); exact (Kd.R_mono (Kd.R_far (p := ⟨gb190, 3, none⟩) (Kd.R_far (p := ⟨gb190, 2, none⟩) (Kd.R_far (p := ⟨gb190, 1, none⟩) (Kd.R_far (p := ⟨gb190, 0, none⟩) (Kd.R_types HO_189003.out BK190.out (by decide)) (fun _ hk => hk.2) (.int .i64 ((rd_T47 l2 x30_1).f0))) (fun _ hk => hk.2) (.int .i64 ((rd_T47 l2 x30_1).f1))) (fun _ hk => hk.2) (.int .i64 ((rd_T47 l2 x30_1).f2))) (fun _ hk => hk.2) (.int .i64 ((rd_T47 l2 x30_1).f3))) (fun _ h_ => h_.1))))) (below_size (pB HB))); have HO199 := Aside0.mk (Kd.R_lower (Kd.R_new' ho1 (Kd.R_lt (by (with_reducible repeat (first | apply Kd.R_alloc | apply Kd.R_drewN | apply Kd.R_drew)); exact (Kd.R_mono (Kd.R_far (p := ⟨gb190, 3, none⟩) (Kd.R_far (p := ⟨gb190, 2, none⟩) (Kd.R_far (p := ⟨gb190, 1, none⟩) (Kd.R_far (p := ⟨gb190, 0, none⟩) (Kd.R_types HO_189004.out BK190.out (by decide)) (fun _ hk => hk.2) (.int .i64 ((rd_T47 l2 x30_1).f0))) (fun _ hk => hk.2) (.int .i64 ((rd_T47 l2 x30_1).f1))) (fun _ hk => hk.2) (.int .i64 ((rd_T47 l2 x30_1).f2))) (fun _ hk => hk.2) (.int .i64 ((rd_T47 l2 x30_1).f3))) (fun _ h_ => h_.1))))) (below_size (pB HB))); have HO202 := Aside0.mk (Kd.R_lower (Kd.R_new' ho2 (Kd.R_lt (by (with_reducible repeat (first | apply Kd.R_alloc | apply Kd.R_drewN | apply Kd.R_drew)); exact (Kd.R_mono (Kd.R_far (p := ⟨gb190, 3, none⟩) (Kd.R_far (p := ⟨gb190, 2, none⟩) (Kd.R_far (p := ⟨gb190, 1, none⟩) (Kd.R_far (p := ⟨gb190, 0, none⟩) (Kd.R_types HO_12.out BK190.out (by decide)) (fun _ hk => hk.2) (.int .i64 ((rd_T47 l2 x30_1).f0))) (fun _ hk => hk.2) (.int .i64 ((rd_T47 l2 x30_1).f1))) (fun _ hk => hk.2) (.int .i64 ((rd_T47 l2 x30_1).f2))) (fun _ hk => hk.2) (.int .i64 ((rd_T47 l2 x30_1).f3))) (fun _ h_ => h_.1))))) (below_size (pB HB))); replace HO_12 := Aside0.mk (Kd.R_elder' (by (with_reducible repeat (first | apply Kd.R_alloc | apply Kd.R_drewN | apply Kd.R_drew)); exact (Kd.R_mono (Kd.R_far (p := ⟨gb190, 3, none⟩) (Kd.R_far (p := ⟨gb190, 2, none⟩) (Kd.R_far (p := ⟨gb190, 1, none⟩) (Kd.R_far (p := ⟨gb190, 0, none⟩) (Kd.R_types HO_12.out BK190.out (by decide)) (fun _ hk => hk.2) (.int .i64 ((rd_T47 l2 x30_1).f0))) (fun _ hk => hk.2) (.int .i64 ((rd_T47 l2 x30_1).f1))) (fun _ hk => hk.2) (.int .i64 ((rd_T47 l2 x30_1).f2))) (fun _ hk => hk.2) (.int .i64 ((rd_T47 l2 x30_1).f3))) (fun _ h_ => h_.1))) (Kd.R_base ho2) hb); replace HO_189003 := Aside0.mk (Kd.R_elder' (by (with_reducible repeat (first | apply Kd.R_alloc | apply Kd.R_drewN | apply Kd.R_drew)); exact (Kd.R_mono (Kd.R_far (p := ⟨gb190, 3, none⟩) (Kd.R_far (p := ⟨gb190, 2, none⟩) (Kd.R_far (p := ⟨gb190, 1, none⟩) (Kd.R_far (p := ⟨gb190, 0, none⟩) (Kd.R_types HO_189003.out BK190.out (by decide)) (fun _ hk => hk.2) (.int .i64 ((rd_T47 l2 x30_1).f0))) (fun _ hk => hk.2) (.int .i64 ((rd_T47 l2 x30_1).f1))) (fun _ hk => hk.2) (.int .i64 ((rd_T47 l2 x30_1).f2))) (fun _ hk => hk.2) (.int .i64 ((rd_T47 l2 x30_1).f3))) (fun _ h_ => h_.1))) (Kd.R_base ho0) hb); replace HO_189004 := Aside0.mk (Kd.R_elder' (by (with_reducible repeat (first | apply Kd.R_alloc | apply Kd.R_drewN | apply Kd.R_drew)); exact (Kd.R_mono (Kd.R_far (p := ⟨gb190, 3, none⟩) (Kd.R_far (p := ⟨gb190, 2, none⟩) (Kd.R_far (p := ⟨gb190, 1, none⟩) (Kd.R_far (p := ⟨gb190, 0, none⟩) (Kd.R_types HO_189004.out BK190.out (by decide)) (fun _ hk => hk.2) (.int .i64 ((rd_T47 l2 x30_1).f0))) (fun _ hk => hk.2) (.int .i64 ((rd_T47 l2 x30_1).f1))) (fun _ hk => hk.2) (.int .i64 ((rd_T47 l2 x30_1).f2))) (fun _ hk => hk.2) (.int .i64 ((rd_T47 l2 x30_1).f3))) (fun _ h_ => h_.1))) (Kd.R_base ho1) hb); replace BK176 := Aside0.mk (blk_below (g := gb176) (o := .cells #[.int .i64 a1_0, .int .i64 a1_1, .slice A1_2 l1_2.length c1_2] 27 (0, 0)) (by (with_reducible repeat (first | refine blk_drewN ?_ _ | refine blk_drew ?_ | refine blk_alloc ?_ _)); refine blk_far ?_ NB176_190.out _; (with_reducible repeat (first | refine blk_drewN ?_ _ | refine blk_drew ?_ | refine blk_alloc ?_ _)); refine blk_far ?_ NB176_190.out _; (with_reducible repeat (first | refine blk_drewN ?_ _ | refine blk_drew ?_ | refine blk_alloc ?_ _)); refine blk_far ?_ NB176_190.out _; (with_reducible repeat (first | refine blk_drewN ?_ _ | refine blk_drew ?_ | refine blk_alloc ?_ _)); refine blk_far ?_ NB176_190.out _; (with_reducible repeat (first | refine blk_drewN ?_ _ | refine blk_drew ?_ | refine blk_alloc ?_ _)); exact BK176.out) hb); replace BK177 := Aside0.mk (blk_below (g := gb177) (o := .cells #[.int .i64 x178000_1, .int .i64 x178001_1, .int .i64 x178002_1, .slice none 0 0, .slice none 0 0] 30 (0, 0)) (by (with_reducible repeat (first | refine blk_drewN ?_ _ | refine blk_drew ?_ | refine blk_alloc ?_ _)); refine blk_far ?_ NB177_190.out _; (with_reducible repeat (first | refine blk_drewN ?_ _ | refine blk_drew ?_ | refine blk_alloc ?_ _)); refine blk_far ?_ NB177_190.out _; (with_reducible repeat (first | refine blk_drewN ?_ _ | refine blk_drew ?_ | refine blk_alloc ?_ _)); refine blk_far ?_ NB177_190.out _; (with_reducible repeat (first | refine blk_drewN ?_ _ | refine blk_drew ?_ | refine blk_alloc ?_ _)); refine blk_far ?_ NB177_190.out _; (with_reducible repeat (first | refine blk_drewN ?_ _ | refine blk_drew ?_ | refine blk_alloc ?_ _)); exact BK177.out) hb); replace BK188 := Aside0.mk (blk_below (g := gb188) (o := .cells #[.int .i64 x189000_1, .int .i64 x189001_1, .int .i64 x189002_1, .slice Ao59 x189003_1.length co59, .slice Ao60 x189004_1.length co60] 30 (0, 0)) (by (with_reducible repeat (first | refine blk_drewN ?_ _ | refine blk_drew ?_ | refine blk_alloc ?_ _)); refine blk_far ?_ NB188_190.out _; (with_reducible repeat (first | refine blk_drewN ?_ _ | refine blk_drew ?_ | refine blk_alloc ?_ _)); refine blk_far ?_ NB188_190.out _; (with_reducible repeat (first | refine blk_drewN ?_ _ | refine blk_drew ?_ | refine blk_alloc ?_ _)); refine blk_far ?_ NB188_190.out _; (with_reducible repeat (first | refine blk_drewN ?_ _ | refine blk_drew ?_ | refine blk_alloc ?_ _)); refine blk_far ?_ NB188_190.out _; (with_reducible repeat (first | refine blk_drewN ?_ _ | refine blk_drew ?_ | refine blk_alloc ?_ _)); exact BK188.out) hb); replace BK190 := Aside0.mk (blk_below (g := gb190) (o := .cells #[.int .i64 ((rd_T47 l2 x30_1).f0), .int .i64 ((rd_T47 l2 x30_1).f1), .int .i64 ((rd_T47 l2 x30_1).f2), .int .i64 ((rd_T47 l2 x30_1).f3)] 47 (0, 0)) (by (with_reducible repeat (first | refine blk_drewN ?_ _ | refine blk_drew ?_ | refine blk_alloc ?_ _)); refine blk_put (cs := #[.int .i64 ((rd_T47 l2 x30_1).f0), .int .i64 ((rd_T47 l2 x30_1).f1), .int .i64 ((rd_T47 l2 x30_1).f2), .int .i64 0]) ?_ 3 _ rfl; (with_reducible repeat (first | refine blk_drewN ?_ _ | refine blk_drew ?_ | refine blk_alloc ?_ _)); refine blk_put (cs := #[.int .i64 ((rd_T47 l2 x30_1).f0), .int .i64 ((rd_T47 l2 x30_1).f1), .int .i64 0, .int .i64 0]) ?_ 2 _ rfl; (with_reducible repeat (first | refine blk_drewN ?_ _ | refine blk_drew ?_ | refine blk_alloc ?_ _)); refine blk_put (cs := #[.int .i64 ((rd_T47 l2 x30_1).f0), .int .i64 0, .int .i64 0, .int .i64 0]) ?_ 1 _ rfl; (with_reducible repeat (first | refine blk_drewN ?_ _ | refine blk_drew ?_ | refine blk_alloc ?_ _)); refine blk_put (cs := #[.int .i64 0, .int .i64 0, .int .i64 0, .int .i64 0]) ?_ 0 _ rfl; (with_reducible repeat (first | refine blk_drewN ?_ _ | refine blk_drew ?_ | refine blk_alloc ?_ _)); exact BK190.out) hb); replace HB := Aside0.mk (below_step (pB HB) hb); (try clear hb); (try clear ho0); (try clear ho1); (try clear ho2)) | ((with_reducible refine gate_dst (N := 15) rfl ?_); refine boxE (N := 15) #[.int .i64 0, .int .i64 0, .int .i64 0, .slice none 0 0, .slice none 0 0] 30 ?_; intro gb204 hg w62 hbox hb; have BK204 := Aside0.mk (hbox); have GW204 := gS HB hg; have GE204 := gS HB hg; have NB176_204 := nL BK176 hg; have NB204_176 := nG BK176 hg; have NB177_204 := nL BK177 hg; have NB204_177 := nG BK177 hg; have NB188_204 := nL BK188 hg; have NB204_188 := nG BK188 hg; have NB190_204 := nL BK190 hg; have NB204_190 := nG BK190 hg; replace HO_12 := rB HO_12 hb; replace HO_189003 := rB HO_189003 hb; replace HO_189004 := rB HO_189004 hb; replace HO196 := rB HO196 hb; replace HO199 := rB HO199 hb; replace HO202 := rB HO202 hb; replace BK176 := bB BK176 hb; replace BK177 := bB BK177 hb; replace BK188 := bB BK188 hb; replace BK190 := bB BK190 hb; replace HB := Aside0.mk (below_step (pB HB) hb); clear hb hbox hg; have hnb63 := NB204_176.out; have hnc63 := NB176_204.out; have hnb64 := NB204_177.out; have hnc64 := NB177_204.out; have hnb65 := NB204_188.out; have hnc65 := NB188_204.out; have hnb66 := NB204_190.out; have hnc66 := NB190_204.out; obtain ⟨hcz67_0, hcz67_1, hcz67_2, hcz67_3, hcz67_4⟩ := cells5 BK204; obtain ⟨hfz67_0, hfz67_1, hfz67_2, hfz67_3, hfz67_4⟩ := frz5 BK204; obtain ⟨Ao68, co68, eo68⟩ := Kd.R_slice HO196.out; subst eo68; obtain ⟨Ao69, co69, eo69⟩ := Kd.R_slice HO199.out; subst eo69; have hnb70 := NB177_176.out; have hnc70 := NB176_177.out; obtain ⟨hcz71_0, hcz71_1, hcz71_2, hcz71_3, hcz71_4⟩ := cells5 BK177; obtain ⟨hfz71_0, hfz71_1, hfz71_2, hfz71_3, hfz71_4⟩ := frz5 BK177))
        refine bodyPost_ret (results_list (rs := [.cell 6 30, .tmp 7, .tmp 8, .tmp 9]) rfl (by simp) (.cell gb177 30 #[.int .i64 0, .int .i64 0, .int .i64 0, .slice none 0 0, .slice none 0 0] (0, 0) _ rfl (by (with_reducible repeat (first | refine blk_drewN ?_ _ | refine blk_drew ?_ | refine blk_alloc ?_ _)); refine blk_put (cs := #[.int .i64 0, .int .i64 0, .int .i64 0, .slice none 0 0, .slice none 0 0]) ?_ 4 _ rfl; (with_reducible repeat (first | refine blk_drewN ?_ _ | refine blk_drew ?_ | refine blk_alloc ?_ _)); refine blk_put (cs := #[.int .i64 0, .int .i64 0, .int .i64 0, .slice none 0 0, .slice none 0 0]) ?_ 3 _ rfl; (with_reducible repeat (first | refine blk_drewN ?_ _ | refine blk_drew ?_ | refine blk_alloc ?_ _)); refine blk_put (cs := #[.int .i64 0, .int .i64 0, .int .i64 x178002_1, .slice none 0 0, .slice none 0 0]) ?_ 2 _ rfl; (with_reducible repeat (first | refine blk_drewN ?_ _ | refine blk_drew ?_ | refine blk_alloc ?_ _)); refine blk_put (cs := #[.int .i64 0, .int .i64 x178001_1, .int .i64 x178002_1, .slice none 0 0, .slice none 0 0]) ?_ 1 _ rfl; (with_reducible repeat (first | refine blk_drewN ?_ _ | refine blk_drew ?_ | refine blk_alloc ?_ _)); refine blk_put (cs := #[.int .i64 x178000_1, .int .i64 x178001_1, .int .i64 x178002_1, .slice none 0 0, .slice none 0 0]) ?_ 0 _ rfl; (with_reducible repeat (first | refine blk_drewN ?_ _ | refine blk_drew ?_ | refine blk_alloc ?_ _)); refine blk_far ?_ NB177_204.out _; (with_reducible repeat (first | refine blk_drewN ?_ _ | refine blk_drew ?_ | refine blk_alloc ?_ _)); refine blk_far ?_ NB177_204.out _; (with_reducible repeat (first | refine blk_drewN ?_ _ | refine blk_drew ?_ | refine blk_alloc ?_ _)); refine blk_far ?_ NB177_204.out _; (with_reducible repeat (first | refine blk_drewN ?_ _ | refine blk_drew ?_ | refine blk_alloc ?_ _)); refine blk_far ?_ NB177_204.out _; (with_reducible repeat (first | refine blk_drewN ?_ _ | refine blk_drew ?_ | refine blk_alloc ?_ _)); refine blk_far ?_ NB177_204.out _; (with_reducible repeat (first | refine blk_drewN ?_ _ | refine blk_drew ?_ | refine blk_alloc ?_ _)); exact BK177.out) Try.underlying30 rfl (by kernel_rfl) (.tmp (.tmp (.tmp .nil))))) rfl ?_
        exact ⟨_, _, _, by first | rfl | (simp [errW_none, errW_some] <;> rfl) | (simp [*, errW_none, errW_some] <;> rfl), by first | exact Kd.R_nil _ _ _ _ _ | exact Kd.N_nil _ _ _ _ _ | exact Kd.V_nil _ _ _ _ _ | exact Kd.Q_nil _ _ _ _ _ | exact Kd.S_nil _ _ _ _ _, by first | exact Kd.R_nil _ _ _ _ _ | exact Kd.N_nil _ _ _ _ _ | exact Kd.V_nil _ _ _ _ _ | exact Kd.Q_nil _ _ _ _ _ | exact Kd.S_nil _ _ _ _ _, by first | exact Kd.R_nil _ _ _ _ _ | exact Kd.N_nil _ _ _ _ _ | exact Kd.V_nil _ _ _ _ _ | exact Kd.Q_nil _ _ _ _ _ | exact Kd.S_nil _ _ _ _ _, pB HB⟩
      ·rw [if_neg c19] at H
       exact absurd H (by simp)
     ·rw [if_neg c18] at H
      exact absurd H (by simp)
    ·rw [if_neg c17] at H
     have c17b0 : decide (x30_1 < (l2.length : Int)) = false := decide_eq_false c17
     clear c17
     simp only [Option.some.injEq, Prod.mk.injEq] at H
     obtain ⟨rfl, rfl, rfl, rfl, rfl, rfl, rfl, rfl⟩ := H
     have hnb72 := NB188_176.out
     have hnc72 := NB176_188.out
     have hnb73 := NB188_177.out
     have hnc73 := NB177_188.out
     obtain ⟨hcz74_0, hcz74_1, hcz74_2, hcz74_3, hcz74_4⟩ := cells5 BK188
     obtain ⟨hfz74_0, hfz74_1, hfz74_2, hfz74_3, hfz74_4⟩ := frz5 BK188
     have hnb75 := NB177_176.out
     have hnc75 := NB176_177.out
     obtain ⟨hcz76_0, hcz76_1, hcz76_2, hcz76_3, hcz76_4⟩ := cells5 BK177
     obtain ⟨hfz76_0, hfz76_1, hfz76_2, hfz76_3, hfz76_4⟩ := frz5 BK177
     obtain ⟨Ao77, co77, eo77⟩ := Kd.R_slice HO_189003.out
     subst eo77
     obtain ⟨Ao78, co78, eo78⟩ := Kd.R_slice HO_189004.out
     subst eo78
     go_wp2
     refine bodyPost_ret (results_list (rs := [.cell 6 30, .tmp 7, .tmp 8, .tmp 9]) rfl (by simp) (.cell gb177 30 #[.int .i64 x189000_1, .int .i64 x189001_1, .int .i64 x189002_1, .slice Ao77 x189003_1.length co77, .slice Ao78 x189004_1.length co78] (0, 0) _ rfl (by (with_reducible repeat (first | refine blk_drewN ?_ _ | refine blk_drew ?_ | refine blk_alloc ?_ _)); refine blk_put (cs := #[.int .i64 x189000_1, .int .i64 x189001_1, .int .i64 x189002_1, .slice Ao77 x189003_1.length co77, .slice none 0 0]) ?_ 4 _ rfl; (with_reducible repeat (first | refine blk_drewN ?_ _ | refine blk_drew ?_ | refine blk_alloc ?_ _)); refine blk_put (cs := #[.int .i64 x189000_1, .int .i64 x189001_1, .int .i64 x189002_1, .slice none 0 0, .slice none 0 0]) ?_ 3 _ rfl; (with_reducible repeat (first | refine blk_drewN ?_ _ | refine blk_drew ?_ | refine blk_alloc ?_ _)); refine blk_put (cs := #[.int .i64 x189000_1, .int .i64 x189001_1, .int .i64 x178002_1, .slice none 0 0, .slice none 0 0]) ?_ 2 _ rfl; (with_reducible repeat (first | refine blk_drewN ?_ _ | refine blk_drew ?_ | refine blk_alloc ?_ _)); refine blk_put (cs := #[.int .i64 x189000_1, .int .i64 x178001_1, .int .i64 x178002_1, .slice none 0 0, .slice none 0 0]) ?_ 1 _ rfl; (with_reducible repeat (first | refine blk_drewN ?_ _ | refine blk_drew ?_ | refine blk_alloc ?_ _)); refine blk_put (cs := #[.int .i64 x178000_1, .int .i64 x178001_1, .int .i64 x178002_1, .slice none 0 0, .slice none 0 0]) ?_ 0 _ rfl; (with_reducible repeat (first | refine blk_drewN ?_ _ | refine blk_drew ?_ | refine blk_alloc ?_ _)); exact BK177.out) Try.underlying30 rfl (by kernel_rfl) (.tmp (.tmp (.tmp .nil))))) rfl ?_
     exact ⟨_, _, _, by first | rfl | (simp [errW_none, errW_some] <;> rfl) | (simp [*, errW_none, errW_some] <;> rfl), by (with_reducible repeat (first | apply Kd.R_alloc | apply Kd.R_drewN | apply Kd.R_drew)); exact Kd.R_mono (Kd.R_far (p := ⟨gb177, 4, none⟩) (Kd.R_far (p := ⟨gb177, 3, none⟩) (Kd.R_far (p := ⟨gb177, 2, none⟩) (Kd.R_far (p := ⟨gb177, 1, none⟩) (Kd.R_far (p := ⟨gb177, 0, none⟩) (Kd.R_types HO_189003.out BK177.out (by decide)) (fun _ hk => hk.2) (.int .i64 x189000_1)) (fun _ hk => hk.2) (.int .i64 x189001_1)) (fun _ hk => hk.2) (.int .i64 x189002_1)) (fun _ hk => hk.2) (.slice Ao77 x189003_1.length co77)) (fun _ hk => hk.2) (.slice Ao78 x189004_1.length co78)) (fun _ hk => trivial), by (with_reducible repeat (first | apply Kd.R_alloc | apply Kd.R_drewN | apply Kd.R_drew)); exact Kd.R_mono (Kd.R_far (p := ⟨gb177, 4, none⟩) (Kd.R_far (p := ⟨gb177, 3, none⟩) (Kd.R_far (p := ⟨gb177, 2, none⟩) (Kd.R_far (p := ⟨gb177, 1, none⟩) (Kd.R_far (p := ⟨gb177, 0, none⟩) (Kd.R_types HO_189004.out BK177.out (by decide)) (fun _ hk => hk.2) (.int .i64 x189000_1)) (fun _ hk => hk.2) (.int .i64 x189001_1)) (fun _ hk => hk.2) (.int .i64 x189002_1)) (fun _ hk => hk.2) (.slice Ao77 x189003_1.length co77)) (fun _ hk => hk.2) (.slice Ao78 x189004_1.length co78)) (fun _ hk => trivial), by (with_reducible repeat (first | apply Kd.R_alloc | apply Kd.R_drewN | apply Kd.R_drew)); exact Kd.R_mono (Kd.R_far (p := ⟨gb177, 4, none⟩) (Kd.R_far (p := ⟨gb177, 3, none⟩) (Kd.R_far (p := ⟨gb177, 2, none⟩) (Kd.R_far (p := ⟨gb177, 1, none⟩) (Kd.R_far (p := ⟨gb177, 0, none⟩) (Kd.R_types HO_12.out BK177.out (by decide)) (fun _ hk => hk.2) (.int .i64 x189000_1)) (fun _ hk => hk.2) (.int .i64 x189001_1)) (fun _ hk => hk.2) (.int .i64 x189002_1)) (fun _ hk => hk.2) (.slice Ao77 x189003_1.length co77)) (fun _ hk => hk.2) (.slice Ao78 x189004_1.length co78)) (fun _ hk => trivial), pB HB⟩
 ·rw [if_neg c5] at H
  have c5b0 : (t187 == 0) = false := beq_eq_false_iff_ne.mpr c5
  have c5b1 : (t187 != 0) = true := bne_iff_ne.mpr c5
  simp only [Option.some.injEq, Prod.mk.injEq] at H
  obtain ⟨rfl, rfl, rfl, rfl, rfl, rfl, rfl, rfl⟩ := H
  go_enter Try.func29, Try.ntmps29
  go_wp2_with (first | ((with_reducible refine gate_dst (N := 4) rfl ?_); refine boxE (N := 4) #[.int .i64 a1_0, .int .i64 a1_1, .slice A1_2 l1_2.length c1_2] 27 ?_; intro gb176 hg w79 hbox hb; have BK176 := Aside0.mk (hbox); have GW176 := gS HB hg; have GE176 := gS HB hg; replace HB := Aside0.mk (below_step (pB HB) hb); clear hb hbox hg) | ((with_reducible refine gate_dst (N := 6) rfl ?_); refine boxE (N := 6) #[.int .i64 0, .int .i64 0, .int .i64 0, .slice none 0 0, .slice none 0 0] 30 ?_; intro gb177 hg w80 hbox hb; have BK177 := Aside0.mk (hbox); have GW177 := gS HB hg; have GE177 := gS HB hg; have NB176_177 := nL BK176 hg; have NB177_176 := nG BK176 hg; replace BK176 := bB BK176 hb; replace HB := Aside0.mk (below_step (pB HB) hb); clear hb hbox hg; have hnb81 := NB176_177.out; have hnc81 := NB177_176.out; obtain ⟨hcz82_0, hcz82_1, hcz82_2⟩ := cells3 BK176; obtain ⟨hfz82_0, hfz82_1, hfz82_2⟩ := frz3 BK176) | ((with_reducible refine gate_callee (f := 17) rfl ?_); refine goesL_ (some 21) rfl rfl Try.func17 (by kernel_rfl) rfl #[.int .i64 a0, .agg #[.int .i64 a1_0, .int .i64 a1_1, .slice A1_2 l1_2.length c1_2]] rfl (by (try simp only [List.map_toArray, List.map_cons, List.map_nil]); first | done | rfl | (simp only [List.length_drop, List.length_take]; rfl)) ?_; (with_reducible refine (docket_New.calls k a0 a1_0 a1_1 _ _ l1_2 t178 t179 t180 t181 t184 t187 _ ?side1 ?side2 A4.out).mono ?_); (case side1 => exact cB HR1_2 HB); (case side2 => exact HC1_2.out); rintro e w83 ⟨v182, v185, rfl, ho0, ho1, hb⟩; refine ⟨_, rfl, ?_⟩; have HO183 := Aside0.mk (Kd.R_lower ho0 (below_size (pB HB))); have HO186 := Aside0.mk (Kd.R_lower ho1 (below_size (pB HB))); replace BK176 := bB BK176 hb; replace BK177 := bB BK177 hb; replace HB := Aside0.mk (below_step (pB HB) hb); (try clear hb); (try clear ho0); (try clear ho1)) | ((with_reducible refine gate_dst (N := 10) rfl ?_); refine boxE (N := 10) #[.int .i64 0, .int .i64 0, .int .i64 0, .slice none 0 0, .slice none 0 0] 30 ?_; intro gb188 hg w84 hbox hb; have BK188 := Aside0.mk (hbox); have GW188 := gS HB hg; have GE188 := gS HB hg; have NB176_188 := nL BK176 hg; have NB188_176 := nG BK176 hg; have NB177_188 := nL BK177 hg; have NB188_177 := nG BK177 hg; replace HO183 := rB HO183 hb; replace HO186 := rB HO186 hb; replace BK176 := bB BK176 hb; replace BK177 := bB BK177 hb; replace HB := Aside0.mk (below_step (pB HB) hb); clear hb hbox hg; have hnb85 := NB188_176.out; have hnc85 := NB176_188.out; have hnb86 := NB188_177.out; have hnc86 := NB177_188.out; obtain ⟨hcz87_0, hcz87_1, hcz87_2, hcz87_3, hcz87_4⟩ := cells5 BK188; obtain ⟨hfz87_0, hfz87_1, hfz87_2, hfz87_3, hfz87_4⟩ := frz5 BK188; obtain ⟨Ao88, co88, eo88⟩ := Kd.R_slice HO183.out; subst eo88; obtain ⟨Ao89, co89, eo89⟩ := Kd.R_slice HO186.out; subst eo89; obtain ⟨hcz90_0, hcz90_1, hcz90_2, hcz90_3, hcz90_4⟩ := cells5 BK177; obtain ⟨hfz90_0, hfz90_1, hfz90_2, hfz90_3, hfz90_4⟩ := frz5 BK177))
  refine bodyPost_ret (results_list (rs := [.cell 6 30, .tmp 7, .tmp 8, .tmp 9]) rfl (by simp) (.cell gb177 30 #[.int .i64 0, .int .i64 0, .int .i64 0, .slice none 0 0, .slice none 0 0] (0, 0) _ rfl (by (with_reducible repeat (first | refine blk_drewN ?_ _ | refine blk_drew ?_ | refine blk_alloc ?_ _)); refine blk_put (cs := #[.int .i64 0, .int .i64 0, .int .i64 0, .slice none 0 0, .slice none 0 0]) ?_ 4 _ rfl; (with_reducible repeat (first | refine blk_drewN ?_ _ | refine blk_drew ?_ | refine blk_alloc ?_ _)); refine blk_put (cs := #[.int .i64 0, .int .i64 0, .int .i64 0, .slice none 0 0, .slice none 0 0]) ?_ 3 _ rfl; (with_reducible repeat (first | refine blk_drewN ?_ _ | refine blk_drew ?_ | refine blk_alloc ?_ _)); refine blk_put (cs := #[.int .i64 0, .int .i64 0, .int .i64 0, .slice none 0 0, .slice none 0 0]) ?_ 2 _ rfl; (with_reducible repeat (first | refine blk_drewN ?_ _ | refine blk_drew ?_ | refine blk_alloc ?_ _)); refine blk_put (cs := #[.int .i64 0, .int .i64 0, .int .i64 0, .slice none 0 0, .slice none 0 0]) ?_ 1 _ rfl; (with_reducible repeat (first | refine blk_drewN ?_ _ | refine blk_drew ?_ | refine blk_alloc ?_ _)); refine blk_put (cs := #[.int .i64 0, .int .i64 0, .int .i64 0, .slice none 0 0, .slice none 0 0]) ?_ 0 _ rfl; (with_reducible repeat (first | refine blk_drewN ?_ _ | refine blk_drew ?_ | refine blk_alloc ?_ _)); refine blk_far ?_ NB177_188.out _; (with_reducible repeat (first | refine blk_drewN ?_ _ | refine blk_drew ?_ | refine blk_alloc ?_ _)); refine blk_far ?_ NB177_188.out _; (with_reducible repeat (first | refine blk_drewN ?_ _ | refine blk_drew ?_ | refine blk_alloc ?_ _)); refine blk_far ?_ NB177_188.out _; (with_reducible repeat (first | refine blk_drewN ?_ _ | refine blk_drew ?_ | refine blk_alloc ?_ _)); refine blk_far ?_ NB177_188.out _; (with_reducible repeat (first | refine blk_drewN ?_ _ | refine blk_drew ?_ | refine blk_alloc ?_ _)); refine blk_far ?_ NB177_188.out _; (with_reducible repeat (first | refine blk_drewN ?_ _ | refine blk_drew ?_ | refine blk_alloc ?_ _)); exact BK177.out) Try.underlying30 rfl (by kernel_rfl) (.tmp (.tmp (.tmp .nil))))) rfl ?_
  exact ⟨_, _, _, by first | rfl | (simp [errW_none, errW_some] <;> rfl) | (simp [*, errW_none, errW_some] <;> rfl), by first | exact Kd.R_nil _ _ _ _ _ | exact Kd.N_nil _ _ _ _ _ | exact Kd.V_nil _ _ _ _ _ | exact Kd.Q_nil _ _ _ _ _ | exact Kd.S_nil _ _ _ _ _, by first | exact Kd.R_nil _ _ _ _ _ | exact Kd.N_nil _ _ _ _ _ | exact Kd.V_nil _ _ _ _ _ | exact Kd.Q_nil _ _ _ _ _ | exact Kd.S_nil _ _ _ _ _, by first | exact Kd.R_nil _ _ _ _ _ | exact Kd.N_nil _ _ _ _ _ | exact Kd.V_nil _ _ _ _ _ | exact Kd.Q_nil _ _ _ _ _ | exact Kd.S_nil _ _ _ _ _, pB HB⟩

end Go.Proofs.Ytpfiecjacpbhkaa.D

/- What the Go functions named below come to, each told as_ a Lean function ('.f'), with the proof ('.calls'): no condition beyond those that each theorem states. Written by a program of this session's over the translation. -/
namespace Go.Proofs.Ytpfiecjacpbhkaa.D
open Go.RowKit Go.Proofs.YtpfiecjacpbhkaaW.PrintWords Go.Proofs.YtpfiecjacpbhkaaW.PrintLast Go.Proofs.YtpfiecjacpbhkaaW.PrintMore
attribute [local go_sem] max2_int min2_int max_two min_two max_three min_three max_four min_four   -- for this text's walks alone
set_option linter.unusedVariables false
set_option linter.unusedSimpArgs false

theorem eqA52 (d : Nat) (w : World) (x0 y0 : Int) (x1 y1 : Int) (x2 y2 : Int) :
    (Op.equalIn (d + 2) 52 (.agg #[.int .i64 x0, .int .i64 x1, .int .i64 x2]) (.agg #[.int .i64 y0, .int .i64 y1, .int .i64 y2])).run Try.prog w = .ok (x0 == y0 && (x1 == y1 && (x2 == y2))) w := by
  refine eqA_of Try.underlying52 (by kernel_rfl) ?_
  refine eqf_cons (by rfl) (by go_simp; rfl) (by go_simp; rfl) (by go_simp) ?_
  refine eqf_cons (by rfl) (by go_simp; rfl) (by go_simp; rfl) (by go_simp) ?_
  exact eqf_last (by rfl) (by go_simp; rfl) (by go_simp; rfl) (by go_simp)
end Go.Proofs.Ytpfiecjacpbhkaa.D

/- What the Go functions named below come to, each told as_ a Lean function ('.f'), with the proof ('.calls'): no condition beyond those that each theorem states. Written by a program of this session's over the translation. -/
namespace Go.Proofs.Ytpfiecjacpbhkaa.D
open Go.RowKit Go.Proofs.YtpfiecjacpbhkaaW.PrintWords Go.Proofs.YtpfiecjacpbhkaaW.PrintLast Go.Proofs.YtpfiecjacpbhkaaW.PrintMore
attribute [local go_sem] max2_int min2_int max_two min_two max_three min_three max_four min_four   -- for this text's walks alone
set_option linter.unusedVariables false
set_option linter.unusedSimpArgs false

/-! ### docket_Due: function 25 -/
def docket_Due.l0 : Nat → Int → Bool → List (S50) → Int → Int → Option (Int × Bool)
 | 0, _, _, _, _, _ => none
 | k + 1, x4, x5, x9, x10, x11 => if x11 < x10 then (if 0 ≤ x11 then (if x11 < (x9.length : Int) then ((docket_running.f ((rd_T50 x9 x11).f0) ((rd_T50 x9 x11).f1) ((rd_T50 x9 x11).f2) ((rd_T50 x9 x11).f3) ((rd_T50 x9 x11).f4)).bind fun t167 => (if t167 = true then (if x5 = true then (if ((rd_T50 x9 x11).f2) < x4 then (docket_Due.l0 k ((rd_T50 x9 x11).f2) true x9 x10 (wrap64 (x11 + 1))) else (docket_Due.l0 k x4 x5 x9 x10 (wrap64 (x11 + 1)))) else (docket_Due.l0 k ((rd_T50 x9 x11).f2) true x9 x10 (wrap64 (x11 + 1)))) else (docket_Due.l0 k x4 x5 x9 x10 (wrap64 (x11 + 1))))) else (none)) else (none)) else (some (x4, x5))
def docket_Due.f (k : Nat) (a0_0 : Int) (a0_1 : Int) (a0_2 : Int) (l0_3 : List Int) (l0_4 : List (S50)) : Option (Int × Bool) := docket_Due.l0 k 0 false l0_4 (l0_4.length : Int) 0
theorem docket_Due.mono_l : ∀ k, (∀ y0 y1 y2 y3 y4, LeO (docket_Due.l0 k y0 y1 y2 y3 y4) (docket_Due.l0 (k + 1) y0 y1 y2 y3 y4))
 | 0 => fun _ _ _ _ _ r h => by simp [docket_Due.l0] at h
 | k + 1 => by
  have ih0 := docket_Due.mono_l k
  ·intro y0 y1 y2 y3 y4
   unfold docket_Due.l0
   repeat' first
   | (with_reducible exact ih0 _ _ _ _ _)
   | (with_reducible exact LeO.refl _)
   | (with_reducible exact LeO.none _)
   | (with_reducible refine LeO.ite ?_ ?_)
   | (with_reducible refine LeO.bind ?_ (fun _ => ?_))
   | exact ih0 _ _ _ _ _
   | exact LeO.none _
   | refine LeO.ite ?_ ?_
   | refine LeO.bind ?_ (fun _ => ?_)
theorem docket_Due.mono : ∀ a0 a1 a2 a3 a4 k, LeO (docket_Due.f k a0 a1 a2 a3 a4) (docket_Due.f (k + 1) a0 a1 a2 a3 a4) := by
 intro a0 a1 a2 a3 a4 k
 have ih0 := docket_Due.mono_l k
 unfold docket_Due.f
 repeat' first
   | (with_reducible exact ih0 _ _ _ _ _)
   | (with_reducible exact LeO.refl _)
   | (with_reducible exact LeO.none _)
   | (with_reducible refine LeO.ite ?_ ?_)
   | (with_reducible refine LeO.bind ?_ (fun _ => ?_))
   | exact ih0 _ _ _ _ _
   | exact LeO.none _
   | refine LeO.ite ?_ ?_
   | refine LeO.bind ?_ (fun _ => ?_)
set_option maxHeartbeats 8000000 in
set_option maxRecDepth 100000 in
theorem docket_Due.calls (k : Nat) (a0_0 : Int) (a0_1 : Int) (a0_2 : Int) (A0_3 : Option Addr) (c0_3 : Nat) (l0_3 : List Int) (A0_4 : Option Addr) (c0_4 : Nat) (l0_4 : List (S50)) (r1 : Int) (r2 : Bool) (w : World) (hr0_3 : Kd.C (Kd.int .i64) w A0_3 l0_3.length l0_3) (hc0_3 : l0_3.length ≤ c0_3) (hr0_4 : Kd.C k50 w A0_4 l0_4.length l0_4) (hc0_4 : l0_4.length ≤ c0_4) (h : docket_Due.f k a0_0 a0_1 a0_2 l0_3 l0_4 = some (r1, r2)) :
  Calls Try.prog 25 #[.agg #[.int .i64 a0_0, .int .i64 a0_1, .int .i64 a0_2, .slice A0_3 l0_3.length c0_3, .slice A0_4 l0_4.length c0_4]] w fun e w' => e = .returned (.tuple #[.int .i64 r1, .bool r2]) ∧ Below w.heap.size w w' := by
 have hu30 := Try.underlying30
 have hu50 := Try.underlying50
 have HR0_3 := Aside0.mk hr0_3
 have HC0_3 := Aside0.mk hc0_3
 clear hr0_3 hc0_3
 have HR0_4 := Aside0.mk hr0_4
 have HC0_4 := Aside0.mk hc0_4
 clear hr0_4 hc0_4
 have HB := Aside0.mk (Below.refl w.heap.size w)
 have H : (docket_Due.l0 k 0 false l0_4 (l0_4.length : Int) 0) = some (r1, r2) := h
 clear h
 have H' := Aside0.mk H
 clear H
 go_enter Try.func25, Try.ntmps25
 go_wp2_with (first | ((with_reducible refine gate_dst (N := 1) rfl ?_); refine boxE (N := 1) #[.int .i64 a0_0, .int .i64 a0_1, .int .i64 a0_2, .slice A0_3 l0_3.length c0_3, .slice A0_4 l0_4.length c0_4] 30 ?_; intro gb164 hg w2 hbox hb; have BK164 := Aside0.mk (hbox); have GW164 := gS HB hg; have GE164 := gS HB hg; replace HB := Aside0.mk (below_step (pB HB) hb); clear hb hbox hg; obtain ⟨hcz3_0, hcz3_1, hcz3_2, hcz3_3, hcz3_4⟩ := cells5 BK164; obtain ⟨hfz3_0, hfz3_1, hfz3_2, hfz3_3, hfz3_4⟩ := frz5 BK164))
 go_loopg [4, 5, 11] k (fun kq v4 v5 v11 w' => ∃ (x4_1 : Int) (x5_1 : Bool) (x11_1 : Int), v4 = .int .i64 x4_1 ∧ v5 = .bool x5_1 ∧ v11 = .int .i64 x11_1 ∧ Aside0 (docket_Due.l0 kq x4_1 x5_1 l0_4 (l0_4.length : Int) x11_1 = some (r1, r2)) ∧ Aside0 (kq ≤ k) ∧ Aside0 (w'.heap[gb164]? = some (.cells #[.int .i64 a0_0, .int .i64 a0_1, .int .i64 a0_2, (.slice A0_3 l0_3.length c0_3), (.slice A0_4 l0_4.length c0_4)] 30 (0, 0))) ∧ Aside0 (Below w.heap.size w w'))
 case atStart => exact ⟨(0), (false), (0), (by first | rfl | (simp; done) | (simp [*]; done)), (by first | rfl | (simp; done) | (simp [*]; done)), (by first | rfl | (simp; done) | (simp [*]; done)), H', ⟨Nat.le_refl _⟩, ⟨by (with_reducible repeat (first | refine blk_drewN ?_ _ | refine blk_drew ?_ | refine blk_alloc ?_ _)); exact BK164.out⟩, ⟨pB HB⟩⟩
 case round =>
  clear H'
  try clear c2
  try clear p2
  obtain ⟨x4_1, x5_1, x11_1, rfl, rfl, rfl, HA, HK1, BK164, HB⟩ := hrel
  cases gk with
  | zero => exact absurd HA.out (by simp [docket_Due.l0])
  | succ k1 =>
   have H := HA.out
   clear HA
   simp only [docket_Due.l0] at H
   by_cases c4 : x11_1 < (l0_4.length : Int)
   ·rw [if_pos c4] at H
    have c4b0 : decide (x11_1 < (l0_4.length : Int)) = true := decide_eq_true c4
    clear c4
    by_cases c5 : 0 ≤ x11_1
    ·rw [if_pos c5] at H
     have c5b0 : decide (0 ≤ x11_1) = true := decide_eq_true c5
     clear c5
     by_cases c6 : x11_1 < (l0_4.length : Int)
     ·rw [if_pos c6] at H
      have c6b0 : decide (x11_1 < (l0_4.length : Int)) = true := decide_eq_true c6
      clear c6
      replace H := Option.bind_eq_some_iff.mp H
      obtain ⟨t167, A70, H⟩ := H
      replace H : (if t167 = true then (if x5_1 = true then (if ((rd_T50 l0_4 x11_1).f2) < x4_1 then (docket_Due.l0 k1 ((rd_T50 l0_4 x11_1).f2) true l0_4 (l0_4.length : Int) (wrap64 (x11_1 + 1))) else (docket_Due.l0 k1 x4_1 x5_1 l0_4 (l0_4.length : Int) (wrap64 (x11_1 + 1)))) else (docket_Due.l0 k1 ((rd_T50 l0_4 x11_1).f2) true l0_4 (l0_4.length : Int) (wrap64 (x11_1 + 1)))) else (docket_Due.l0 k1 x4_1 x5_1 l0_4 (l0_4.length : Int) (wrap64 (x11_1 + 1)))) = some (r1, r2) := H
      have A7 := Aside0.mk A70
      clear A70
      by_cases c8 : t167 = true
      ·subst c8
       have H1 : (if x5_1 = true then (if ((rd_T50 l0_4 x11_1).f2) < x4_1 then (docket_Due.l0 k1 ((rd_T50 l0_4 x11_1).f2) true l0_4 (l0_4.length : Int) (wrap64 (x11_1 + 1))) else (docket_Due.l0 k1 x4_1 x5_1 l0_4 (l0_4.length : Int) (wrap64 (x11_1 + 1)))) else (docket_Due.l0 k1 ((rd_T50 l0_4 x11_1).f2) true l0_4 (l0_4.length : Int) (wrap64 (x11_1 + 1)))) = some (r1, r2) := by rw [if_pos rfl] at H; exact H
       clear H
       have H := H1
       clear H1
       by_cases c9 : x5_1 = true
       ·subst c9
        have H1 : (if ((rd_T50 l0_4 x11_1).f2) < x4_1 then (docket_Due.l0 k1 ((rd_T50 l0_4 x11_1).f2) true l0_4 (l0_4.length : Int) (wrap64 (x11_1 + 1))) else (docket_Due.l0 k1 x4_1 true l0_4 (l0_4.length : Int) (wrap64 (x11_1 + 1)))) = some (r1, r2) := by rw [if_pos rfl] at H; exact H
        clear H
        have H := H1
        clear H1
        by_cases c10 : ((rd_T50 l0_4 x11_1).f2) < x4_1
        ·rw [if_pos c10] at H
         have c10b0 : decide (((rd_T50 l0_4 x11_1).f2) < x4_1) = true := decide_eq_true c10
         clear c10
         have H' := Aside0.mk H
         clear H
         have p165 : 0 ≤ (x11_1 : Int) := of_decide_eq_true (by first | (with_reducible assumption) | assumption)
         have q165 : x11_1 < (l0_4.length : Int) := of_decide_eq_true (by first | (with_reducible assumption) | assumption)
         obtain ⟨ad165, e165, hx165_0, hx165_1, hx165_2, hx165_3, hx165_4⟩ := at_T50 HR0_4.out x11_1 p165 q165
         cases e165
         replace hx165_0 := (HB.out.cell (World.block_lt_of_cell? w _ hx165_0)).trans hx165_0
         replace hx165_1 := (HB.out.cell (World.block_lt_of_cell? w _ hx165_1)).trans hx165_1
         replace hx165_2 := (HB.out.cell (World.block_lt_of_cell? w _ hx165_2)).trans hx165_2
         replace hx165_3 := (HB.out.cell (World.block_lt_of_cell? w _ hx165_3)).trans hx165_3
         replace hx165_4 := (HB.out.cell (World.block_lt_of_cell? w _ hx165_4)).trans hx165_4
         replace p165 := eq_true p165
         replace q165 := eq_true q165
         go_wp2_with (first | ((with_reducible refine gate_dst (N := 7) rfl ?_); refine boxE (N := 7) #[.int .i64 0, .int .i64 0, .int .i64 0, .int .i64 0, .bool false] 50 ?_; intro gb166 hg w11 hbox hb; have BK166 := Aside0.mk (hbox); have GW166 := gS HB hg; have GE166 := gS HB hg; have NB164_166 := nL BK164 hg; have NB166_164 := nG BK164 hg; replace BK164 := bB BK164 hb; replace HB := Aside0.mk (below_step (pB HB) hb); clear hb hbox hg; have hnb12 := NB166_164.out; have hnc12 := NB164_166.out; obtain ⟨hcz13_0, hcz13_1, hcz13_2, hcz13_3, hcz13_4⟩ := cells5 BK166; obtain ⟨hfz13_0, hfz13_1, hfz13_2, hfz13_3, hfz13_4⟩ := frz5 BK166) | ((with_reducible refine gate_callee (f := 42) rfl ?_); refine goesL_ (some 16) rfl rfl Try.func42 (by kernel_rfl) rfl #[.agg #[.int .i64 ((rd_T50 l0_4 x11_1).f0), .int .i64 ((rd_T50 l0_4 x11_1).f1), .int .i64 ((rd_T50 l0_4 x11_1).f2), .int .i64 ((rd_T50 l0_4 x11_1).f3), .bool ((rd_T50 l0_4 x11_1).f4)]] rfl (by (try simp only [List.map_toArray, List.map_cons, List.map_nil]); first | done | rfl | (simp only [List.length_drop, List.length_take]; rfl)) ?_; (with_reducible refine (docket_running.calls ((rd_T50 l0_4 x11_1).f0) ((rd_T50 l0_4 x11_1).f1) ((rd_T50 l0_4 x11_1).f2) ((rd_T50 l0_4 x11_1).f3) ((rd_T50 l0_4 x11_1).f4) true _ A7.out).mono ?_); rintro e w14 ⟨rfl, hb⟩; refine ⟨_, rfl, ?_⟩; replace BK164 := Aside0.mk (blk_below (g := gb164) (o := .cells #[.int .i64 a0_0, .int .i64 a0_1, .int .i64 a0_2, .slice A0_3 l0_3.length c0_3, .slice (some ad165) l0_4.length c0_4] 30 (0, 0)) (by (with_reducible repeat (first | refine blk_drewN ?_ _ | refine blk_drew ?_ | refine blk_alloc ?_ _)); refine blk_far ?_ NB164_166.out _; (with_reducible repeat (first | refine blk_drewN ?_ _ | refine blk_drew ?_ | refine blk_alloc ?_ _)); refine blk_far ?_ NB164_166.out _; (with_reducible repeat (first | refine blk_drewN ?_ _ | refine blk_drew ?_ | refine blk_alloc ?_ _)); refine blk_far ?_ NB164_166.out _; (with_reducible repeat (first | refine blk_drewN ?_ _ | refine blk_drew ?_ | refine blk_alloc ?_ _)); refine blk_far ?_ NB164_166.out _; (with_reducible repeat (first | refine blk_drewN ?_ _ | refine blk_drew ?_ | refine blk_alloc ?_ _)); refine blk_far ?_ NB164_166.out _; (with_reducible repeat (first | refine blk_drewN ?_ _ | refine blk_drew ?_ | refine blk_alloc ?_ _)); exact BK164.out) hb); replace BK166 := Aside0.mk (blk_below (g := gb166) (o := .cells #[.int .i64 ((rd_T50 l0_4 x11_1).f0), .int .i64 ((rd_T50 l0_4 x11_1).f1), .int .i64 ((rd_T50 l0_4 x11_1).f2), .int .i64 ((rd_T50 l0_4 x11_1).f3), .bool ((rd_T50 l0_4 x11_1).f4)] 50 (0, 0)) (by (with_reducible repeat (first | refine blk_drewN ?_ _ | refine blk_drew ?_ | refine blk_alloc ?_ _)); refine blk_put (cs := #[.int .i64 ((rd_T50 l0_4 x11_1).f0), .int .i64 ((rd_T50 l0_4 x11_1).f1), .int .i64 ((rd_T50 l0_4 x11_1).f2), .int .i64 ((rd_T50 l0_4 x11_1).f3), .bool false]) ?_ 4 _ rfl; (with_reducible repeat (first | refine blk_drewN ?_ _ | refine blk_drew ?_ | refine blk_alloc ?_ _)); refine blk_put (cs := #[.int .i64 ((rd_T50 l0_4 x11_1).f0), .int .i64 ((rd_T50 l0_4 x11_1).f1), .int .i64 ((rd_T50 l0_4 x11_1).f2), .int .i64 0, .bool false]) ?_ 3 _ rfl; (with_reducible repeat (first | refine blk_drewN ?_ _ | refine blk_drew ?_ | refine blk_alloc ?_ _)); refine blk_put (cs := #[.int .i64 ((rd_T50 l0_4 x11_1).f0), .int .i64 ((rd_T50 l0_4 x11_1).f1), .int .i64 0, .int .i64 0, .bool false]) ?_ 2 _ rfl; (with_reducible repeat (first | refine blk_drewN ?_ _ | refine blk_drew ?_ | refine blk_alloc ?_ _)); refine blk_put (cs := #[.int .i64 ((rd_T50 l0_4 x11_1).f0), .int .i64 0, .int .i64 0, .int .i64 0, .bool false]) ?_ 1 _ rfl; (with_reducible repeat (first | refine blk_drewN ?_ _ | refine blk_drew ?_ | refine blk_alloc ?_ _)); refine blk_put (cs := #[.int .i64 0, .int .i64 0, .int .i64 0, .int .i64 0, .bool false]) ?_ 0 _ rfl; (with_reducible repeat (first | refine blk_drewN ?_ _ | refine blk_drew ?_ | refine blk_alloc ?_ _)); exact BK166.out) hb); replace HB := Aside0.mk (below_step (pB HB) hb); (try clear hb); obtain ⟨hcz15_0, hcz15_1, hcz15_2, hcz15_3, hcz15_4⟩ := cells5 BK166; obtain ⟨hfz15_0, hfz15_1, hfz15_2, hfz15_3, hfz15_4⟩ := frz5 BK166))
         go_roundg k1
         case measure => have := HK1.out; omega
         case rel => exact ⟨((rd_T50 l0_4 x11_1).f2), (true), (wrap64 (x11_1 + 1)), (by first | rfl | (simp; done) | (simp [*]; done)), (by first | rfl | (simp; done) | (simp [*]; done)), (by first | rfl | (simp; done) | (simp [*]; done)), H', ⟨by have := HK1.out; omega⟩, ⟨by (with_reducible repeat (first | refine blk_drewN ?_ _ | refine blk_drew ?_ | refine blk_alloc ?_ _)); exact BK164.out⟩, ⟨pB HB⟩⟩
        ·rw [if_neg c10] at H
         have c10b0 : decide (((rd_T50 l0_4 x11_1).f2) < x4_1) = false := decide_eq_false c10
         clear c10
         have H' := Aside0.mk H
         clear H
         have p165 : 0 ≤ (x11_1 : Int) := of_decide_eq_true (by first | (with_reducible assumption) | assumption)
         have q165 : x11_1 < (l0_4.length : Int) := of_decide_eq_true (by first | (with_reducible assumption) | assumption)
         obtain ⟨ad165, e165, hx165_0, hx165_1, hx165_2, hx165_3, hx165_4⟩ := at_T50 HR0_4.out x11_1 p165 q165
         cases e165
         replace hx165_0 := (HB.out.cell (World.block_lt_of_cell? w _ hx165_0)).trans hx165_0
         replace hx165_1 := (HB.out.cell (World.block_lt_of_cell? w _ hx165_1)).trans hx165_1
         replace hx165_2 := (HB.out.cell (World.block_lt_of_cell? w _ hx165_2)).trans hx165_2
         replace hx165_3 := (HB.out.cell (World.block_lt_of_cell? w _ hx165_3)).trans hx165_3
         replace hx165_4 := (HB.out.cell (World.block_lt_of_cell? w _ hx165_4)).trans hx165_4
         replace p165 := eq_true p165
         replace q165 := eq_true q165
         go_wp2_with (first | ((with_reducible refine gate_dst (N := 7) rfl ?_); refine boxE (N := 7) #[.int .i64 0, .int .i64 0, .int .i64 0, .int .i64 0, .bool false] 50 ?_; intro gb166 hg w16 hbox hb; have BK166 := Aside0.mk (hbox); have GW166 := gS HB hg; have GE166 := gS HB hg; have NB164_166 := nL BK164 hg; have NB166_164 := nG BK164 hg; replace BK164 := bB BK164 hb; replace HB := Aside0.mk (below_step (pB HB) hb); clear hb hbox hg; have hnb17 := NB166_164.out; have hnc17 := NB164_166.out; obtain ⟨hcz18_0, hcz18_1, hcz18_2, hcz18_3, hcz18_4⟩ := cells5 BK166; obtain ⟨hfz18_0, hfz18_1, hfz18_2, hfz18_3, hfz18_4⟩ := frz5 BK166) | ((with_reducible refine gate_callee (f := 42) rfl ?_); refine goesL_ (some 16) rfl rfl Try.func42 (by kernel_rfl) rfl #[.agg #[.int .i64 ((rd_T50 l0_4 x11_1).f0), .int .i64 ((rd_T50 l0_4 x11_1).f1), .int .i64 ((rd_T50 l0_4 x11_1).f2), .int .i64 ((rd_T50 l0_4 x11_1).f3), .bool ((rd_T50 l0_4 x11_1).f4)]] rfl (by (try simp only [List.map_toArray, List.map_cons, List.map_nil]); first | done | rfl | (simp only [List.length_drop, List.length_take]; rfl)) ?_; (with_reducible refine (docket_running.calls ((rd_T50 l0_4 x11_1).f0) ((rd_T50 l0_4 x11_1).f1) ((rd_T50 l0_4 x11_1).f2) ((rd_T50 l0_4 x11_1).f3) ((rd_T50 l0_4 x11_1).f4) true _ A7.out).mono ?_); rintro e w19 ⟨rfl, hb⟩; refine ⟨_, rfl, ?_⟩; replace BK164 := Aside0.mk (blk_below (g := gb164) (o := .cells #[.int .i64 a0_0, .int .i64 a0_1, .int .i64 a0_2, .slice A0_3 l0_3.length c0_3, .slice (some ad165) l0_4.length c0_4] 30 (0, 0)) (by (with_reducible repeat (first | refine blk_drewN ?_ _ | refine blk_drew ?_ | refine blk_alloc ?_ _)); refine blk_far ?_ NB164_166.out _; (with_reducible repeat (first | refine blk_drewN ?_ _ | refine blk_drew ?_ | refine blk_alloc ?_ _)); refine blk_far ?_ NB164_166.out _; (with_reducible repeat (first | refine blk_drewN ?_ _ | refine blk_drew ?_ | refine blk_alloc ?_ _)); refine blk_far ?_ NB164_166.out _; (with_reducible repeat (first | refine blk_drewN ?_ _ | refine blk_drew ?_ | refine blk_alloc ?_ _)); refine blk_far ?_ NB164_166.out _; (with_reducible repeat (first | refine blk_drewN ?_ _ | refine blk_drew ?_ | refine blk_alloc ?_ _)); refine blk_far ?_ NB164_166.out _; (with_reducible repeat (first | refine blk_drewN ?_ _ | refine blk_drew ?_ | refine blk_alloc ?_ _)); exact BK164.out) hb); replace BK166 := Aside0.mk (blk_below (g := gb166) (o := .cells #[.int .i64 ((rd_T50 l0_4 x11_1).f0), .int .i64 ((rd_T50 l0_4 x11_1).f1), .int .i64 ((rd_T50 l0_4 x11_1).f2), .int .i64 ((rd_T50 l0_4 x11_1).f3), .bool ((rd_T50 l0_4 x11_1).f4)] 50 (0, 0)) (by (with_reducible repeat (first | refine blk_drewN ?_ _ | refine blk_drew ?_ | refine blk_alloc ?_ _)); refine blk_put (cs := #[.int .i64 ((rd_T50 l0_4 x11_1).f0), .int .i64 ((rd_T50 l0_4 x11_1).f1), .int .i64 ((rd_T50 l0_4 x11_1).f2), .int .i64 ((rd_T50 l0_4 x11_1).f3), .bool false]) ?_ 4 _ rfl; (with_reducible repeat (first | refine blk_drewN ?_ _ | refine blk_drew ?_ | refine blk_alloc ?_ _)); refine blk_put (cs := #[.int .i64 ((rd_T50 l0_4 x11_1).f0), .int .i64 ((rd_T50 l0_4 x11_1).f1), .int .i64 ((rd_T50 l0_4 x11_1).f2), .int .i64 0, .bool false]) ?_ 3 _ rfl; (with_reducible repeat (first | refine blk_drewN ?_ _ | refine blk_drew ?_ | refine blk_alloc ?_ _)); refine blk_put (cs := #[.int .i64 ((rd_T50 l0_4 x11_1).f0), .int .i64 ((rd_T50 l0_4 x11_1).f1), .int .i64 0, .int .i64 0, .bool false]) ?_ 2 _ rfl; (with_reducible repeat (first | refine blk_drewN ?_ _ | refine blk_drew ?_ | refine blk_alloc ?_ _)); refine blk_put (cs := #[.int .i64 ((rd_T50 l0_4 x11_1).f0), .int .i64 0, .int .i64 0, .int .i64 0, .bool false]) ?_ 1 _ rfl; (with_reducible repeat (first | refine blk_drewN ?_ _ | refine blk_drew ?_ | refine blk_alloc ?_ _)); refine blk_put (cs := #[.int .i64 0, .int .i64 0, .int .i64 0, .int .i64 0, .bool false]) ?_ 0 _ rfl; (with_reducible repeat (first | refine blk_drewN ?_ _ | refine blk_drew ?_ | refine blk_alloc ?_ _)); exact BK166.out) hb); replace HB := Aside0.mk (below_step (pB HB) hb); (try clear hb); obtain ⟨hcz20_0, hcz20_1, hcz20_2, hcz20_3, hcz20_4⟩ := cells5 BK166; obtain ⟨hfz20_0, hfz20_1, hfz20_2, hfz20_3, hfz20_4⟩ := frz5 BK166))
         go_roundg k1
         case measure => have := HK1.out; omega
         case rel => exact ⟨(x4_1), (true), (wrap64 (x11_1 + 1)), (by first | rfl | (simp; done) | (simp [*]; done)), (by first | rfl | (simp; done) | (simp [*]; done)), (by first | rfl | (simp; done) | (simp [*]; done)), H', ⟨by have := HK1.out; omega⟩, ⟨by (with_reducible repeat (first | refine blk_drewN ?_ _ | refine blk_drew ?_ | refine blk_alloc ?_ _)); exact BK164.out⟩, ⟨pB HB⟩⟩
       ·replace c9 := Bool.eq_false_iff.mpr c9
        subst c9
        have H1 : (docket_Due.l0 k1 ((rd_T50 l0_4 x11_1).f2) true l0_4 (l0_4.length : Int) (wrap64 (x11_1 + 1))) = some (r1, r2) := by rw [if_neg (show ¬ (false = true) by decide)] at H; exact H
        clear H
        have H := H1
        clear H1
        have H' := Aside0.mk H
        clear H
        have p165 : 0 ≤ (x11_1 : Int) := of_decide_eq_true (by first | (with_reducible assumption) | assumption)
        have q165 : x11_1 < (l0_4.length : Int) := of_decide_eq_true (by first | (with_reducible assumption) | assumption)
        obtain ⟨ad165, e165, hx165_0, hx165_1, hx165_2, hx165_3, hx165_4⟩ := at_T50 HR0_4.out x11_1 p165 q165
        cases e165
        replace hx165_0 := (HB.out.cell (World.block_lt_of_cell? w _ hx165_0)).trans hx165_0
        replace hx165_1 := (HB.out.cell (World.block_lt_of_cell? w _ hx165_1)).trans hx165_1
        replace hx165_2 := (HB.out.cell (World.block_lt_of_cell? w _ hx165_2)).trans hx165_2
        replace hx165_3 := (HB.out.cell (World.block_lt_of_cell? w _ hx165_3)).trans hx165_3
        replace hx165_4 := (HB.out.cell (World.block_lt_of_cell? w _ hx165_4)).trans hx165_4
        replace p165 := eq_true p165
        replace q165 := eq_true q165
        go_wp2_with (first | ((with_reducible refine gate_dst (N := 7) rfl ?_); refine boxE (N := 7) #[.int .i64 0, .int .i64 0, .int .i64 0, .int .i64 0, .bool false] 50 ?_; intro gb166 hg w21 hbox hb; have BK166 := Aside0.mk (hbox); have GW166 := gS HB hg; have GE166 := gS HB hg; have NB164_166 := nL BK164 hg; have NB166_164 := nG BK164 hg; replace BK164 := bB BK164 hb; replace HB := Aside0.mk (below_step (pB HB) hb); clear hb hbox hg; have hnb22 := NB166_164.out; have hnc22 := NB164_166.out; obtain ⟨hcz23_0, hcz23_1, hcz23_2, hcz23_3, hcz23_4⟩ := cells5 BK166; obtain ⟨hfz23_0, hfz23_1, hfz23_2, hfz23_3, hfz23_4⟩ := frz5 BK166) | ((with_reducible refine gate_callee (f := 42) rfl ?_); refine goesL_ (some 16) rfl rfl Try.func42 (by kernel_rfl) rfl #[.agg #[.int .i64 ((rd_T50 l0_4 x11_1).f0), .int .i64 ((rd_T50 l0_4 x11_1).f1), .int .i64 ((rd_T50 l0_4 x11_1).f2), .int .i64 ((rd_T50 l0_4 x11_1).f3), .bool ((rd_T50 l0_4 x11_1).f4)]] rfl (by (try simp only [List.map_toArray, List.map_cons, List.map_nil]); first | done | rfl | (simp only [List.length_drop, List.length_take]; rfl)) ?_; (with_reducible refine (docket_running.calls ((rd_T50 l0_4 x11_1).f0) ((rd_T50 l0_4 x11_1).f1) ((rd_T50 l0_4 x11_1).f2) ((rd_T50 l0_4 x11_1).f3) ((rd_T50 l0_4 x11_1).f4) true _ A7.out).mono ?_); rintro e w24 ⟨rfl, hb⟩; refine ⟨_, rfl, ?_⟩; replace BK164 := Aside0.mk (blk_below (g := gb164) (o := .cells #[.int .i64 a0_0, .int .i64 a0_1, .int .i64 a0_2, .slice A0_3 l0_3.length c0_3, .slice (some ad165) l0_4.length c0_4] 30 (0, 0)) (by (with_reducible repeat (first | refine blk_drewN ?_ _ | refine blk_drew ?_ | refine blk_alloc ?_ _)); refine blk_far ?_ NB164_166.out _; (with_reducible repeat (first | refine blk_drewN ?_ _ | refine blk_drew ?_ | refine blk_alloc ?_ _)); refine blk_far ?_ NB164_166.out _; (with_reducible repeat (first | refine blk_drewN ?_ _ | refine blk_drew ?_ | refine blk_alloc ?_ _)); refine blk_far ?_ NB164_166.out _; (with_reducible repeat (first | refine blk_drewN ?_ _ | refine blk_drew ?_ | refine blk_alloc ?_ _)); refine blk_far ?_ NB164_166.out _; (with_reducible repeat (first | refine blk_drewN ?_ _ | refine blk_drew ?_ | refine blk_alloc ?_ _)); refine blk_far ?_ NB164_166.out _; (with_reducible repeat (first | refine blk_drewN ?_ _ | refine blk_drew ?_ | refine blk_alloc ?_ _)); exact BK164.out) hb); replace BK166 := Aside0.mk (blk_below (g := gb166) (o := .cells #[.int .i64 ((rd_T50 l0_4 x11_1).f0), .int .i64 ((rd_T50 l0_4 x11_1).f1), .int .i64 ((rd_T50 l0_4 x11_1).f2), .int .i64 ((rd_T50 l0_4 x11_1).f3), .bool ((rd_T50 l0_4 x11_1).f4)] 50 (0, 0)) (by (with_reducible repeat (first | refine blk_drewN ?_ _ | refine blk_drew ?_ | refine blk_alloc ?_ _)); refine blk_put (cs := #[.int .i64 ((rd_T50 l0_4 x11_1).f0), .int .i64 ((rd_T50 l0_4 x11_1).f1), .int .i64 ((rd_T50 l0_4 x11_1).f2), .int .i64 ((rd_T50 l0_4 x11_1).f3), .bool false]) ?_ 4 _ rfl; (with_reducible repeat (first | refine blk_drewN ?_ _ | refine blk_drew ?_ | refine blk_alloc ?_ _)); refine blk_put (cs := #[.int .i64 ((rd_T50 l0_4 x11_1).f0), .int .i64 ((rd_T50 l0_4 x11_1).f1), .int .i64 ((rd_T50 l0_4 x11_1).f2), .int .i64 0, .bool false]) ?_ 3 _ rfl; (with_reducible repeat (first | refine blk_drewN ?_ _ | refine blk_drew ?_ | refine blk_alloc ?_ _)); refine blk_put (cs := #[.int .i64 ((rd_T50 l0_4 x11_1).f0), .int .i64 ((rd_T50 l0_4 x11_1).f1), .int .i64 0, .int .i64 0, .bool false]) ?_ 2 _ rfl; (with_reducible repeat (first | refine blk_drewN ?_ _ | refine blk_drew ?_ | refine blk_alloc ?_ _)); refine blk_put (cs := #[.int .i64 ((rd_T50 l0_4 x11_1).f0), .int .i64 0, .int .i64 0, .int .i64 0, .bool false]) ?_ 1 _ rfl; (with_reducible repeat (first | refine blk_drewN ?_ _ | refine blk_drew ?_ | refine blk_alloc ?_ _)); refine blk_put (cs := #[.int .i64 0, .int .i64 0, .int .i64 0, .int .i64 0, .bool false]) ?_ 0 _ rfl; (with_reducible repeat (first | refine blk_drewN ?_ _ | refine blk_drew ?_ | refine blk_alloc ?_ _)); exact BK166.out) hb); replace HB := Aside0.mk (below_step (pB HB) hb); (try clear hb); obtain ⟨hcz25_0, hcz25_1, hcz25_2, hcz25_3, hcz25_4⟩ := cells5 BK166; obtain ⟨hfz25_0, hfz25_1, hfz25_2, hfz25_3, hfz25_4⟩ := frz5 BK166))
        go_roundg k1
        case measure => have := HK1.out; omega
        case rel => exact ⟨((rd_T50 l0_4 x11_1).f2), (true), (wrap64 (x11_1 + 1)), (by first | rfl | (simp; done) | (simp [*]; done)), (by first | rfl | (simp; done) | (simp [*]; done)), (by first | rfl | (simp; done) | (simp [*]; done)), H', ⟨by have := HK1.out; omega⟩, ⟨by (with_reducible repeat (first | refine blk_drewN ?_ _ | refine blk_drew ?_ | refine blk_alloc ?_ _)); exact BK164.out⟩, ⟨pB HB⟩⟩
      ·replace c8 := Bool.eq_false_iff.mpr c8
       subst c8
       have H1 : (docket_Due.l0 k1 x4_1 x5_1 l0_4 (l0_4.length : Int) (wrap64 (x11_1 + 1))) = some (r1, r2) := by rw [if_neg (show ¬ (false = true) by decide)] at H; exact H
       clear H
       have H := H1
       clear H1
       have H' := Aside0.mk H
       clear H
       have p165 : 0 ≤ (x11_1 : Int) := of_decide_eq_true (by first | (with_reducible assumption) | assumption)
       have q165 : x11_1 < (l0_4.length : Int) := of_decide_eq_true (by first | (with_reducible assumption) | assumption)
       obtain ⟨ad165, e165, hx165_0, hx165_1, hx165_2, hx165_3, hx165_4⟩ := at_T50 HR0_4.out x11_1 p165 q165
       cases e165
       replace hx165_0 := (HB.out.cell (World.block_lt_of_cell? w _ hx165_0)).trans hx165_0
       replace hx165_1 := (HB.out.cell (World.block_lt_of_cell? w _ hx165_1)).trans hx165_1
       replace hx165_2 := (HB.out.cell (World.block_lt_of_cell? w _ hx165_2)).trans hx165_2
       replace hx165_3 := (HB.out.cell (World.block_lt_of_cell? w _ hx165_3)).trans hx165_3
       replace hx165_4 := (HB.out.cell (World.block_lt_of_cell? w _ hx165_4)).trans hx165_4
       replace p165 := eq_true p165
       replace q165 := eq_true q165
       go_wp2_with (first | ((with_reducible refine gate_dst (N := 7) rfl ?_); refine boxE (N := 7) #[.int .i64 0, .int .i64 0, .int .i64 0, .int .i64 0, .bool false] 50 ?_; intro gb166 hg w26 hbox hb; have BK166 := Aside0.mk (hbox); have GW166 := gS HB hg; have GE166 := gS HB hg; have NB164_166 := nL BK164 hg; have NB166_164 := nG BK164 hg; replace BK164 := bB BK164 hb; replace HB := Aside0.mk (below_step (pB HB) hb); clear hb hbox hg; have hnb27 := NB166_164.out; have hnc27 := NB164_166.out; obtain ⟨hcz28_0, hcz28_1, hcz28_2, hcz28_3, hcz28_4⟩ := cells5 BK166; obtain ⟨hfz28_0, hfz28_1, hfz28_2, hfz28_3, hfz28_4⟩ := frz5 BK166) | ((with_reducible refine gate_callee (f := 42) rfl ?_); refine goesL_ (some 16) rfl rfl Try.func42 (by kernel_rfl) rfl #[.agg #[.int .i64 ((rd_T50 l0_4 x11_1).f0), .int .i64 ((rd_T50 l0_4 x11_1).f1), .int .i64 ((rd_T50 l0_4 x11_1).f2), .int .i64 ((rd_T50 l0_4 x11_1).f3), .bool ((rd_T50 l0_4 x11_1).f4)]] rfl (by (try simp only [List.map_toArray, List.map_cons, List.map_nil]); first | done | rfl | (simp only [List.length_drop, List.length_take]; rfl)) ?_; (with_reducible refine (docket_running.calls ((rd_T50 l0_4 x11_1).f0) ((rd_T50 l0_4 x11_1).f1) ((rd_T50 l0_4 x11_1).f2) ((rd_T50 l0_4 x11_1).f3) ((rd_T50 l0_4 x11_1).f4) false _ A7.out).mono ?_); rintro e w29 ⟨rfl, hb⟩; refine ⟨_, rfl, ?_⟩; replace BK164 := Aside0.mk (blk_below (g := gb164) (o := .cells #[.int .i64 a0_0, .int .i64 a0_1, .int .i64 a0_2, .slice A0_3 l0_3.length c0_3, .slice (some ad165) l0_4.length c0_4] 30 (0, 0)) (by (with_reducible repeat (first | refine blk_drewN ?_ _ | refine blk_drew ?_ | refine blk_alloc ?_ _)); refine blk_far ?_ NB164_166.out _; (with_reducible repeat (first | refine blk_drewN ?_ _ | refine blk_drew ?_ | refine blk_alloc ?_ _)); refine blk_far ?_ NB164_166.out _; (with_reducible repeat (first | refine blk_drewN ?_ _ | refine blk_drew ?_ | refine blk_alloc ?_ _)); refine blk_far ?_ NB164_166.out _; (with_reducible repeat (first | refine blk_drewN ?_ _ | refine blk_drew ?_ | refine blk_alloc ?_ _)); refine blk_far ?_ NB164_166.out _; (with_reducible repeat (first | refine blk_drewN ?_ _ | refine blk_drew ?_ | refine blk_alloc ?_ _)); refine blk_far ?_ NB164_166.out _; (with_reducible repeat (first | refine blk_drewN ?_ _ | refine blk_drew ?_ | refine blk_alloc ?_ _)); exact BK164.out) hb); replace BK166 := Aside0.mk (blk_below (g := gb166) (o := .cells #[.int .i64 ((rd_T50 l0_4 x11_1).f0), .int .i64 ((rd_T50 l0_4 x11_1).f1), .int .i64 ((rd_T50 l0_4 x11_1).f2), .int .i64 ((rd_T50 l0_4 x11_1).f3), .bool ((rd_T50 l0_4 x11_1).f4)] 50 (0, 0)) (by (with_reducible repeat (first | refine blk_drewN ?_ _ | refine blk_drew ?_ | refine blk_alloc ?_ _)); refine blk_put (cs := #[.int .i64 ((rd_T50 l0_4 x11_1).f0), .int .i64 ((rd_T50 l0_4 x11_1).f1), .int .i64 ((rd_T50 l0_4 x11_1).f2), .int .i64 ((rd_T50 l0_4 x11_1).f3), .bool false]) ?_ 4 _ rfl; (with_reducible repeat (first | refine blk_drewN ?_ _ | refine blk_drew ?_ | refine blk_alloc ?_ _)); refine blk_put (cs := #[.int .i64 ((rd_T50 l0_4 x11_1).f0), .int .i64 ((rd_T50 l0_4 x11_1).f1), .int .i64 ((rd_T50 l0_4 x11_1).f2), .int .i64 0, .bool false]) ?_ 3 _ rfl; (with_reducible repeat (first | refine blk_drewN ?_ _ | refine blk_drew ?_ | refine blk_alloc ?_ _)); refine blk_put (cs := #[.int .i64 ((rd_T50 l0_4 x11_1).f0), .int .i64 ((rd_T50 l0_4 x11_1).f1), .int .i64 0, .int .i64 0, .bool false]) ?_ 2 _ rfl; (with_reducible repeat (first | refine blk_drewN ?_ _ | refine blk_drew ?_ | refine blk_alloc ?_ _)); refine blk_put (cs := #[.int .i64 ((rd_T50 l0_4 x11_1).f0), .int .i64 0, .int .i64 0, .int .i64 0, .bool false]) ?_ 1 _ rfl; (with_reducible repeat (first | refine blk_drewN ?_ _ | refine blk_drew ?_ | refine blk_alloc ?_ _)); refine blk_put (cs := #[.int .i64 0, .int .i64 0, .int .i64 0, .int .i64 0, .bool false]) ?_ 0 _ rfl; (with_reducible repeat (first | refine blk_drewN ?_ _ | refine blk_drew ?_ | refine blk_alloc ?_ _)); exact BK166.out) hb); replace HB := Aside0.mk (below_step (pB HB) hb); (try clear hb)))
       go_roundg k1
       case measure => have := HK1.out; omega
       case rel => exact ⟨(x4_1), (x5_1), (wrap64 (x11_1 + 1)), (by first | rfl | (simp; done) | (simp [*]; done)), (by first | rfl | (simp; done) | (simp [*]; done)), (by first | rfl | (simp; done) | (simp [*]; done)), H', ⟨by have := HK1.out; omega⟩, ⟨by (with_reducible repeat (first | refine blk_drewN ?_ _ | refine blk_drew ?_ | refine blk_alloc ?_ _)); exact BK164.out⟩, ⟨pB HB⟩⟩
     ·rw [if_neg c6] at H
      exact absurd H (by simp)
    ·rw [if_neg c5] at H
     exact absurd H (by simp)
   ·rw [if_neg c4] at H
    have c4b0 : decide (x11_1 < (l0_4.length : Int)) = false := decide_eq_false c4
    clear c4
    simp only [Option.some.injEq, Prod.mk.injEq] at H
    obtain ⟨rfl, rfl⟩ := H
    go_wp2
    go_ret2
    exact ⟨by first | rfl | (simp [errW_none, errW_some] <;> rfl) | (simp [*, errW_none, errW_some] <;> rfl), pB HB⟩

end Go.Proofs.Ytpfiecjacpbhkaa.D
