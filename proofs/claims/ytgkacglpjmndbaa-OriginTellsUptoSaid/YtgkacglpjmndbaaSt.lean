/- Structs opened. Written by opn.py. -/
import Derived.Test.YtgkacglpjmndbaaSo
import Derived.Test.YtgkacglpjmndbaaQg
namespace Go.Proofs.Ytgkacglpjmndbaa
open Go.ChangeShapes Go.WideShapes Go.ChangeAt Go.RowKit
set_option linter.unusedVariables false
set_option maxRecDepth 100000

theorem cl44 : Try.prog.cellsOf 44 = 3 := by kernel_rfl
theorem cl9 : Try.prog.cellsOf 9 = 1 := by kernel_rfl
theorem cl3 : Try.prog.cellsOf 3 = 1 := by kernel_rfl
def bk_Call (x : Call) : Nat := bkS x.Name + bk1 x.File + bk1 x.At + 1
def ok_Call (x : Call) : Prop := okT x.Name ∧ okI x.File ∧ okI x.At
theorem opn_Call : Opn 44 d_Call bk_Call ok_Call := ⟨fun H enc W hd n cs x h => by
  obtain ⟨xs, m, rfl, rfl, hl, hx, hf⟩ := DataW.trod_struct Try.underlying44 h
  rw [cl44] at hl
  obtain ⟨c0, c1, c2, rfl⟩ : ∃ c0 c1 c2, cs = [c0, c1, c2] := by
    match cs, hl with
    | [c0, c1, c2], _ => exact ⟨c0, c1, c2, rfl⟩
  obtain ⟨x0, x1, x2, rfl⟩ : ∃ x0 x1 x2, xs = [x0, x1, x2] := by
    match xs, hx with
    | [x0, x1, x2], _ => exact ⟨x0, x1, x2, rfl⟩
  have f0 : DataW.trod enc Try.prog W 0 (fun _ => true) hd m 9 [c0] = some x0 := by
    have := hf 0 _ rfl
    change DataW.trod enc Try.prog W 0 (fun _ => true) hd m 9 (([c0, c1, c2].drop 0).take (Try.prog.cellsOf 9)) = some x0 at this
    rw [cl9] at this
    exact this
  obtain ⟨a0, r0, b0, k0⟩ := (Opn.str Try.underlying9).go H enc W hd m _ _ f0
  have f1 : DataW.trod enc Try.prog W 0 (fun _ => true) hd m 3 [c1] = some x1 := by
    have := hf 1 _ rfl
    change DataW.trod enc Try.prog W 0 (fun _ => true) hd m 3 (([c0, c1, c2].drop 1).take (Try.prog.cellsOf 3)) = some x1 at this
    rw [cl3] at this
    exact this
  obtain ⟨a1, r1, b1, k1⟩ := (Opn.int Try.underlying3).go H enc W hd m _ _ f1
  have f2 : DataW.trod enc Try.prog W 0 (fun _ => true) hd m 3 [c2] = some x2 := by
    have := hf 2 _ rfl
    change DataW.trod enc Try.prog W 0 (fun _ => true) hd m 3 (([c0, c1, c2].drop 2).take (Try.prog.cellsOf 3)) = some x2 at this
    rw [cl3] at this
    exact this
  obtain ⟨a2, r2, b2, k2⟩ := (Opn.int Try.underlying3).go H enc W hd m _ _ f2
  refine ⟨⟨a0, a1, a2⟩, (r0.append (r1.append r2)), ?_, ⟨k0, k1, k2⟩⟩
  simp only [bk_Call, List.map_cons, List.map_nil, Rows.uptoBulk, Rows.uptoBulkAll]
  omega⟩
theorem cl37 : Try.prog.cellsOf 37 = 11 := by kernel_rfl
theorem cl4 : Try.prog.cellsOf 4 = 1 := by kernel_rfl
theorem cl34 : Try.prog.cellsOf 34 = 1 := by kernel_rfl
theorem cl35 : Try.prog.cellsOf 35 = 1 := by kernel_rfl
def bk_Token (x : Token) : Nat := bk1 x.Kind + bkS x.Text + bk1 x.Space + bk1 x.First + bk1 x.File + bk1 x.At + bk1 x.End + bk1 x.Line + bkL bkS x.Hide + bkL bk_Call x.Calls + bk1 x.Made + 1
def ok_Token (x : Token) : Prop := okI x.Kind ∧ okT x.Text ∧ okT x.Space ∧ okT x.First ∧ okI x.File ∧ okI x.At ∧ okI x.End ∧ okI x.Line ∧ okL okT x.Hide ∧ okL ok_Call x.Calls ∧ okI x.Made
theorem opn_Token : Opn 37 d_Token bk_Token ok_Token := ⟨fun H enc W hd n cs x h => by
  obtain ⟨xs, m, rfl, rfl, hl, hx, hf⟩ := DataW.trod_struct Try.underlying37 h
  rw [cl37] at hl
  obtain ⟨c0, c1, c2, c3, c4, c5, c6, c7, c8, c9, c10, rfl⟩ : ∃ c0 c1 c2 c3 c4 c5 c6 c7 c8 c9 c10, cs = [c0, c1, c2, c3, c4, c5, c6, c7, c8, c9, c10] := by
    match cs, hl with
    | [c0, c1, c2, c3, c4, c5, c6, c7, c8, c9, c10], _ => exact ⟨c0, c1, c2, c3, c4, c5, c6, c7, c8, c9, c10, rfl⟩
  obtain ⟨x0, x1, x2, x3, x4, x5, x6, x7, x8, x9, x10, rfl⟩ : ∃ x0 x1 x2 x3 x4 x5 x6 x7 x8 x9 x10, xs = [x0, x1, x2, x3, x4, x5, x6, x7, x8, x9, x10] := by
    match xs, hx with
    | [x0, x1, x2, x3, x4, x5, x6, x7, x8, x9, x10], _ => exact ⟨x0, x1, x2, x3, x4, x5, x6, x7, x8, x9, x10, rfl⟩
  have f0 : DataW.trod enc Try.prog W 0 (fun _ => true) hd m 3 [c0] = some x0 := by
    have := hf 0 _ rfl
    change DataW.trod enc Try.prog W 0 (fun _ => true) hd m 3 (([c0, c1, c2, c3, c4, c5, c6, c7, c8, c9, c10].drop 0).take (Try.prog.cellsOf 3)) = some x0 at this
    rw [cl3] at this
    exact this
  obtain ⟨a0, r0, b0, k0⟩ := (Opn.int Try.underlying3).go H enc W hd m _ _ f0
  have f1 : DataW.trod enc Try.prog W 0 (fun _ => true) hd m 9 [c1] = some x1 := by
    have := hf 1 _ rfl
    change DataW.trod enc Try.prog W 0 (fun _ => true) hd m 9 (([c0, c1, c2, c3, c4, c5, c6, c7, c8, c9, c10].drop 1).take (Try.prog.cellsOf 9)) = some x1 at this
    rw [cl9] at this
    exact this
  obtain ⟨a1, r1, b1, k1⟩ := (Opn.str Try.underlying9).go H enc W hd m _ _ f1
  have f2 : DataW.trod enc Try.prog W 0 (fun _ => true) hd m 4 [c2] = some x2 := by
    have := hf 2 _ rfl
    change DataW.trod enc Try.prog W 0 (fun _ => true) hd m 4 (([c0, c1, c2, c3, c4, c5, c6, c7, c8, c9, c10].drop 2).take (Try.prog.cellsOf 4)) = some x2 at this
    rw [cl4] at this
    exact this
  obtain ⟨a2, r2, b2, k2⟩ := (Opn.bool Try.underlying4).go H enc W hd m _ _ f2
  have f3 : DataW.trod enc Try.prog W 0 (fun _ => true) hd m 4 [c3] = some x3 := by
    have := hf 3 _ rfl
    change DataW.trod enc Try.prog W 0 (fun _ => true) hd m 4 (([c0, c1, c2, c3, c4, c5, c6, c7, c8, c9, c10].drop 3).take (Try.prog.cellsOf 4)) = some x3 at this
    rw [cl4] at this
    exact this
  obtain ⟨a3, r3, b3, k3⟩ := (Opn.bool Try.underlying4).go H enc W hd m _ _ f3
  have f4 : DataW.trod enc Try.prog W 0 (fun _ => true) hd m 3 [c4] = some x4 := by
    have := hf 4 _ rfl
    change DataW.trod enc Try.prog W 0 (fun _ => true) hd m 3 (([c0, c1, c2, c3, c4, c5, c6, c7, c8, c9, c10].drop 4).take (Try.prog.cellsOf 3)) = some x4 at this
    rw [cl3] at this
    exact this
  obtain ⟨a4, r4, b4, k4⟩ := (Opn.int Try.underlying3).go H enc W hd m _ _ f4
  have f5 : DataW.trod enc Try.prog W 0 (fun _ => true) hd m 3 [c5] = some x5 := by
    have := hf 5 _ rfl
    change DataW.trod enc Try.prog W 0 (fun _ => true) hd m 3 (([c0, c1, c2, c3, c4, c5, c6, c7, c8, c9, c10].drop 5).take (Try.prog.cellsOf 3)) = some x5 at this
    rw [cl3] at this
    exact this
  obtain ⟨a5, r5, b5, k5⟩ := (Opn.int Try.underlying3).go H enc W hd m _ _ f5
  have f6 : DataW.trod enc Try.prog W 0 (fun _ => true) hd m 3 [c6] = some x6 := by
    have := hf 6 _ rfl
    change DataW.trod enc Try.prog W 0 (fun _ => true) hd m 3 (([c0, c1, c2, c3, c4, c5, c6, c7, c8, c9, c10].drop 6).take (Try.prog.cellsOf 3)) = some x6 at this
    rw [cl3] at this
    exact this
  obtain ⟨a6, r6, b6, k6⟩ := (Opn.int Try.underlying3).go H enc W hd m _ _ f6
  have f7 : DataW.trod enc Try.prog W 0 (fun _ => true) hd m 3 [c7] = some x7 := by
    have := hf 7 _ rfl
    change DataW.trod enc Try.prog W 0 (fun _ => true) hd m 3 (([c0, c1, c2, c3, c4, c5, c6, c7, c8, c9, c10].drop 7).take (Try.prog.cellsOf 3)) = some x7 at this
    rw [cl3] at this
    exact this
  obtain ⟨a7, r7, b7, k7⟩ := (Opn.int Try.underlying3).go H enc W hd m _ _ f7
  have f8 : DataW.trod enc Try.prog W 0 (fun _ => true) hd m 34 [c8] = some x8 := by
    have := hf 8 _ rfl
    change DataW.trod enc Try.prog W 0 (fun _ => true) hd m 34 (([c0, c1, c2, c3, c4, c5, c6, c7, c8, c9, c10].drop 8).take (Try.prog.cellsOf 34)) = some x8 at this
    rw [cl34] at this
    exact this
  obtain ⟨a8, r8, b8, k8⟩ := (Opn.slice (sz := 1) Try.underlying34 cl9 (by decide) (Opn.str Try.underlying9) (fun _ => rfl)).go H enc W hd m _ _ f8
  have f9 : DataW.trod enc Try.prog W 0 (fun _ => true) hd m 35 [c9] = some x9 := by
    have := hf 9 _ rfl
    change DataW.trod enc Try.prog W 0 (fun _ => true) hd m 35 (([c0, c1, c2, c3, c4, c5, c6, c7, c8, c9, c10].drop 9).take (Try.prog.cellsOf 35)) = some x9 at this
    rw [cl35] at this
    exact this
  obtain ⟨a9, r9, b9, k9⟩ := (Opn.slice (sz := 3) Try.underlying35 cl44 (by decide) opn_Call (fun _ => rfl)).go H enc W hd m _ _ f9
  have f10 : DataW.trod enc Try.prog W 0 (fun _ => true) hd m 3 [c10] = some x10 := by
    have := hf 10 _ rfl
    change DataW.trod enc Try.prog W 0 (fun _ => true) hd m 3 (([c0, c1, c2, c3, c4, c5, c6, c7, c8, c9, c10].drop 10).take (Try.prog.cellsOf 3)) = some x10 at this
    rw [cl3] at this
    exact this
  obtain ⟨a10, r10, b10, k10⟩ := (Opn.int Try.underlying3).go H enc W hd m _ _ f10
  refine ⟨⟨a0, a1, a2, a3, a4, a5, a6, a7, a8, a9, a10⟩, (r0.append (r1.append (r2.append (r3.append (r4.append (r5.append (r6.append (r7.append (r8.append (r9.append r10)))))))))), ?_, ⟨k0, k1, k2, k3, k4, k5, k6, k7, k8, k9, k10⟩⟩
  simp only [bk_Token, List.map_cons, List.map_nil, Rows.uptoBulk, Rows.uptoBulkAll]
  omega⟩
theorem cl79 : Try.prog.cellsOf 79 = 2 := by kernel_rfl
def bk_Source (x : Source) : Nat := bkS x.Path + bkS x.Text + 1
def ok_Source (x : Source) : Prop := okT x.Path ∧ okT x.Text
theorem opn_Source : Opn 79 d_Source bk_Source ok_Source := ⟨fun H enc W hd n cs x h => by
  obtain ⟨xs, m, rfl, rfl, hl, hx, hf⟩ := DataW.trod_struct Try.underlying79 h
  rw [cl79] at hl
  obtain ⟨c0, c1, rfl⟩ : ∃ c0 c1, cs = [c0, c1] := by
    match cs, hl with
    | [c0, c1], _ => exact ⟨c0, c1, rfl⟩
  obtain ⟨x0, x1, rfl⟩ : ∃ x0 x1, xs = [x0, x1] := by
    match xs, hx with
    | [x0, x1], _ => exact ⟨x0, x1, rfl⟩
  have f0 : DataW.trod enc Try.prog W 0 (fun _ => true) hd m 9 [c0] = some x0 := by
    have := hf 0 _ rfl
    change DataW.trod enc Try.prog W 0 (fun _ => true) hd m 9 (([c0, c1].drop 0).take (Try.prog.cellsOf 9)) = some x0 at this
    rw [cl9] at this
    exact this
  obtain ⟨a0, r0, b0, k0⟩ := (Opn.str Try.underlying9).go H enc W hd m _ _ f0
  have f1 : DataW.trod enc Try.prog W 0 (fun _ => true) hd m 9 [c1] = some x1 := by
    have := hf 1 _ rfl
    change DataW.trod enc Try.prog W 0 (fun _ => true) hd m 9 (([c0, c1].drop 1).take (Try.prog.cellsOf 9)) = some x1 at this
    rw [cl9] at this
    exact this
  obtain ⟨a1, r1, b1, k1⟩ := (Opn.str Try.underlying9).go H enc W hd m _ _ f1
  refine ⟨⟨a0, a1⟩, (r0.append r1), ?_, ⟨k0, k1⟩⟩
  simp only [bk_Source, List.map_cons, List.map_nil, Rows.uptoBulk, Rows.uptoBulkAll]
  omega⟩
end Go.Proofs.Ytgkacglpjmndbaa
