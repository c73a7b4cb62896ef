/- What the reader reads of the structs and arrays among the laws' arguments, told in Lean. Written by a program of this session's. -/
import Derived.Test.YtmlhckcnpfokaaaGopen
namespace Go.Proofs.Ytmlhckcnpfokaaa.Ho
open Go.RowKit Go.ChangeShapes Go.WideShapes Go.Deep Go.Proofs.YtmlhckcnpfokaaaW.PrintWords
open Go.Proofs.Ytmlhckcnpfokaaa.D
set_option linter.unusedVariables false
set_option linter.unusedSimpArgs false
section
variable {H : Type} {enc : TypeId × Value → H} {w : World} {base : Nat} {spare : Nat → Bool} {held : Bool}
theorem cellsI_i64 : Try.prog.cellsOf 3 = 1 := by kernel_rfl
theorem cellsI_u16 : Try.prog.cellsOf 38 = 1 := by kernel_rfl
theorem cellsI_u8 : Try.prog.cellsOf 5 = 1 := by kernel_rfl
theorem cellsB : Try.prog.cellsOf 4 = 1 := by kernel_rfl
theorem readsI_i64 : Reads enc Try.prog w base spare held 3 (fun (a : Int) cs => (Kd.int .i64).K w a cs) (fun a => (Lit.int .i64 a).wf = true) := reads_int Try.underlying3
theorem readsI_u16 : Reads enc Try.prog w base spare held 38 (fun (a : Int) cs => (Kd.int .u16).K w a cs) (fun a => (Lit.int .u16 a).wf = true) := reads_int Try.underlying38
theorem readsI_u8 : Reads enc Try.prog w base spare held 5 (fun (a : Int) cs => (Kd.int .u8).K w a cs) (fun a => (Lit.int .u8 a).wf = true) := reads_int Try.underlying5
def ok45 (a : S45) : Prop := (Lit.int .i64 a.f0).wf = true ∧ (Lit.int .i64 a.f1).wf = true ∧ (Lit.int .i64 a.f2).wf = true
theorem cells45 : Try.prog.cellsOf 45 = 4 := by kernel_rfl
theorem reads45 : Reads enc Try.prog w base spare held 45 (fun (a : S45) cs => k45.K w a cs) ok45 := by
  intro n cs x hl h
  rw [cells45] at hl
  obtain ⟨m, hm⟩ := field_at Try.underlying45 (by kernel_rfl) h
  match cs, hl with
  | [v0, v1, v2, v3], _ =>
    obtain ⟨_, y0, h0⟩ := hm 0 _ v0 rfl rfl
    obtain ⟨b0, e0, w0⟩ := reads_int Try.underlying3 m [v0] y0 cellsI_i64.symm h0
    cases e0
    obtain ⟨_, y1, h1⟩ := hm 1 _ v1 rfl rfl
    obtain ⟨b1, e1, w1⟩ := reads_int Try.underlying3 m [v1] y1 cellsI_i64.symm h1
    cases e1
    obtain ⟨_, y2, h2⟩ := hm 2 _ v2 rfl rfl
    obtain ⟨b2, e2, w2⟩ := reads_int Try.underlying3 m [v2] y2 cellsI_i64.symm h2
    cases e2
    obtain ⟨_, y3, h3⟩ := hm 3 _ v3 rfl rfl
    obtain ⟨b3, e3, w3⟩ := reads_bool Try.underlying4 m [v3] y3 cellsB.symm h3
    cases e3
    exact ⟨⟨b0, b1, b2, b3⟩, k45_mk w _, w0, w1, w2⟩
end
end Go.Proofs.Ytmlhckcnpfokaaa.Ho
