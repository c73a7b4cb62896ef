/- What the reader reads of the structs and arrays among the laws' arguments, told in Lean. Written by a program of this session's. -/
import Derived.Test.YtjdkfdcaicdenaaGopen
namespace Go.Proofs.Ytjdkfdcaicdenaa.Ho
open Go.RowKit Go.ChangeShapes Go.WideShapes Go.Deep Go.Proofs.YtjdkfdcaicdenaaW.PrintWords
open Go.Proofs.Ytjdkfdcaicdenaa.F
set_option linter.unusedVariables false
set_option linter.unusedSimpArgs false
section
variable {H : Type} {enc : TypeId × Value → H} {w : World} {base : Nat} {spare : Nat → Bool} {held : Bool}
theorem cellsI_i64 : Try.prog.cellsOf 3 = 1 := by kernel_rfl
theorem cellsI_u16 : Try.prog.cellsOf 27 = 1 := by kernel_rfl
theorem cellsI_u8 : Try.prog.cellsOf 5 = 1 := by kernel_rfl
theorem cellsB : Try.prog.cellsOf 4 = 1 := by kernel_rfl
theorem readsI_i64 : Reads enc Try.prog w base spare held 3 (fun (a : Int) cs => (Kd.int .i64).K w a cs) (fun a => (Lit.int .i64 a).wf = true) := reads_int Try.underlying3
theorem readsI_u16 : Reads enc Try.prog w base spare held 27 (fun (a : Int) cs => (Kd.int .u16).K w a cs) (fun a => (Lit.int .u16 a).wf = true) := reads_int Try.underlying27
theorem readsI_u8 : Reads enc Try.prog w base spare held 5 (fun (a : Int) cs => (Kd.int .u8).K w a cs) (fun a => (Lit.int .u8 a).wf = true) := reads_int Try.underlying5
def ok23 (a : S23) : Prop := (Lit.int .i64 a.f0).wf = true ∧ (Lit.int .i64 a.f1).wf = true ∧ (Lit.int .i64 a.f2).wf = true
theorem cells23 : Try.prog.cellsOf 23 = 3 := by kernel_rfl
theorem reads23 : Reads enc Try.prog w base spare held 23 (fun (a : S23) cs => k23.K w a cs) ok23 := by
  intro n cs x hl h
  rw [cells23] at hl
  obtain ⟨m, hm⟩ := field_at Try.underlying23 (by kernel_rfl) h
  match cs, hl with
  | [v0, v1, v2], _ =>
    obtain ⟨_, y0, h0⟩ := hm 0 _ v0 rfl rfl
    obtain ⟨b0, e0, w0⟩ := reads_int Try.underlying3 m [v0] y0 cellsI_i64.symm h0
    cases e0
    obtain ⟨_, y1, h1⟩ := hm 1 _ v1 rfl rfl
    obtain ⟨b1, e1, w1⟩ := reads_int Try.underlying3 m [v1] y1 cellsI_i64.symm h1
    cases e1
    obtain ⟨_, y2, h2⟩ := hm 2 _ v2 rfl rfl
    obtain ⟨b2, e2, w2⟩ := reads_int Try.underlying3 m [v2] y2 cellsI_i64.symm h2
    cases e2
    exact ⟨⟨b0, b1, b2⟩, k23_mk w _, w0, w1, w2⟩
def ok26 (a : S26) : Prop := (Lit.int .u8 a.f0).wf = true ∧ (Lit.int .u8 a.f1).wf = true ∧ (Lit.int .u8 a.f2).wf = true
theorem cells26 : Try.prog.cellsOf 26 = 3 := by kernel_rfl
theorem reads26 : Reads enc Try.prog w base spare held 26 (fun (a : S26) cs => k26.K w a cs) ok26 := by
  intro n cs x hl h
  rw [cells26] at hl
  obtain ⟨m, hm⟩ := elem_at Try.underlying26 (by kernel_rfl) h
  match cs, hl with
  | [v0, v1, v2], _ =>
    obtain ⟨y0, h0⟩ := hm 0 v0 (by omega) rfl
    obtain ⟨b0, e0, w0⟩ := reads_int Try.underlying5 m [v0] y0 cellsI_u8.symm h0
    cases e0
    obtain ⟨y1, h1⟩ := hm 1 v1 (by omega) rfl
    obtain ⟨b1, e1, w1⟩ := reads_int Try.underlying5 m [v1] y1 cellsI_u8.symm h1
    cases e1
    obtain ⟨y2, h2⟩ := hm 2 v2 (by omega) rfl
    obtain ⟨b2, e2, w2⟩ := reads_int Try.underlying5 m [v2] y2 cellsI_u8.symm h2
    cases e2
    exact ⟨⟨b0, b1, b2⟩, k26_mk w _, w0, w1, w2⟩
def ok46 (a : S46) : Prop := (Lit.int .i64 a.f0).wf = true ∧ (Lit.int .i64 a.f1).wf = true
theorem cells46 : Try.prog.cellsOf 46 = 2 := by kernel_rfl
theorem reads46 : Reads enc Try.prog w base spare held 46 (fun (a : S46) cs => k46.K w a cs) ok46 := by
  intro n cs x hl h
  rw [cells46] at hl
  obtain ⟨m, hm⟩ := field_at Try.underlying46 (by kernel_rfl) h
  match cs, hl with
  | [v0, v1], _ =>
    obtain ⟨_, y0, h0⟩ := hm 0 _ v0 rfl rfl
    obtain ⟨b0, e0, w0⟩ := reads_int Try.underlying3 m [v0] y0 cellsI_i64.symm h0
    cases e0
    obtain ⟨_, y1, h1⟩ := hm 1 _ v1 rfl rfl
    obtain ⟨b1, e1, w1⟩ := reads_int Try.underlying3 m [v1] y1 cellsI_i64.symm h1
    cases e1
    exact ⟨⟨b0, b1⟩, k46_mk w _, w0, w1⟩
def ok54 (a : S54) : Prop := (Lit.int .i64 a.f0).wf = true ∧ (Lit.int .i64 a.f1).wf = true
theorem cells54 : Try.prog.cellsOf 54 = 3 := by kernel_rfl
theorem reads54 : Reads enc Try.prog w base spare held 54 (fun (a : S54) cs => k54.K w a cs) ok54 := by
  intro n cs x hl h
  rw [cells54] at hl
  obtain ⟨m, hm⟩ := field_at Try.underlying54 (by kernel_rfl) h
  match cs, hl with
  | [v0, v1, v2], _ =>
    obtain ⟨_, y0, h0⟩ := hm 0 _ v0 rfl rfl
    obtain ⟨b0, e0, w0⟩ := reads_int Try.underlying3 m [v0] y0 cellsI_i64.symm h0
    cases e0
    obtain ⟨_, y1, h1⟩ := hm 1 _ v1 rfl rfl
    obtain ⟨b1, e1, w1⟩ := reads_int Try.underlying3 m [v1] y1 cellsI_i64.symm h1
    cases e1
    obtain ⟨_, y2, h2⟩ := hm 2 _ v2 rfl rfl
    obtain ⟨b2, e2, w2⟩ := reads_bool Try.underlying4 m [v2] y2 cellsB.symm h2
    cases e2
    exact ⟨⟨b0, b1, b2⟩, k54_mk w _, w0, w1⟩
end
end Go.Proofs.Ytjdkfdcaicdenaa.Ho
