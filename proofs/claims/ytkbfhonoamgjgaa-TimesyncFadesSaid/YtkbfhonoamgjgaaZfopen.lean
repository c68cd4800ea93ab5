/- A claim's own texts, laid together by wip/zip.py without what the claim does not use. Conditions: none. -/
import Derived.Test.YtkbfhonoamgjgaaProg
import Derived.WalkKit
import Derived.ProofKit
import Derived.ChangeArms
import Derived.WideShapes
import Derived.KernelRfl
import Derived.Deep.Slices
import Derived.Test.YtkbfhonoamgjgaaZfpx0
section
/- Struct parameters of the laws, laid open: the values' own cells. Conditions: none. -/
namespace Go.Proofs.Ytkbfhonoamgjgaa
open Go.ChangeShapes Go.WideShapes Go.RowKit Go.Proofs.YtkbfhonoamgjgaaW.PrintWords
set_option linter.unusedVariables false
set_option maxRecDepth 100000
theorem cells23 {H : Type} {enc : TypeId × Value → H} {w : World} {base : Nat} {spare : Nat → Bool} {held : Bool} {fuel : Nat} {cs : List Value} {x : DataW H × List MemPlace} (h : DataW.trod enc Try.prog w base spare held fuel 23 cs = some x) :
    ∃ (a0 : Int) (a1 : Int) (a2 : Int), cs = [.int .i64 a0, .int .i64 a1, .int .i64 a2] ∧ (Lit.int .i64 a0).wf = true ∧ (Lit.int .i64 a1).wf = true ∧ (Lit.int .i64 a2).wf = true := by
  obtain ⟨xs, n, _, _, hl, hlen, hf⟩ := DataW.trod_struct Try.underlying23 h
  rw [show Try.prog.cellsOf 23 = 3 from by kernel_rfl] at hl
  match cs, hl, xs, hlen with
  | [c0, c1, c2], _, [y0, y1, y2], _ =>
    have h0 : DataW.trod enc Try.prog w base spare held n 3 (([c0, c1, c2].drop 0).take (Try.prog.cellsOf 3)) = some y0 := hf 0 _ rfl
    rw [show Try.prog.cellsOf 3 = 1 from by kernel_rfl] at h0
    replace h0 : DataW.trod enc Try.prog w base spare held n 3 [c0] = some y0 := h0
    obtain ⟨a0, e0, _, w0⟩ := DataW.trod_int Try.underlying3 h0
    simp only [List.cons.injEq, and_true] at e0
    subst e0
    have h1 : DataW.trod enc Try.prog w base spare held n 3 (([(.int .i64 a0), c1, c2].drop 1).take (Try.prog.cellsOf 3)) = some y1 := hf 1 _ rfl
    rw [show Try.prog.cellsOf 3 = 1 from by kernel_rfl] at h1
    replace h1 : DataW.trod enc Try.prog w base spare held n 3 [c1] = some y1 := h1
    obtain ⟨a1, e1, _, w1⟩ := DataW.trod_int Try.underlying3 h1
    simp only [List.cons.injEq, and_true] at e1
    subst e1
    have h2 : DataW.trod enc Try.prog w base spare held n 3 (([(.int .i64 a0), (.int .i64 a1), c2].drop 2).take (Try.prog.cellsOf 3)) = some y2 := hf 2 _ rfl
    rw [show Try.prog.cellsOf 3 = 1 from by kernel_rfl] at h2
    replace h2 : DataW.trod enc Try.prog w base spare held n 3 [c2] = some y2 := h2
    obtain ⟨a2, e2, _, w2⟩ := DataW.trod_int Try.underlying3 h2
    simp only [List.cons.injEq, and_true] at e2
    subst e2
    exact ⟨a0, a1, a2, rfl, w0, w1, w2⟩
theorem cells25 {H : Type} {enc : TypeId × Value → H} {w : World} {base : Nat} {spare : Nat → Bool} {held : Bool} {fuel : Nat} {cs : List Value} {x : DataW H × List MemPlace} (h : DataW.trod enc Try.prog w base spare held fuel 25 cs = some x) :
    ∃ (a0 : Bool) (a1 : Int) (a2 : Int) (a3 : Int) (a4 : Int) (a5 : Int) (a6 : Int), cs = [.bool a0, .int .i64 a1, .int .i64 a2, .int .i64 a3, .int .i64 a4, .int .i64 a5, .int .i64 a6] ∧ (Lit.int .i64 a1).wf = true ∧ (Lit.int .i64 a2).wf = true ∧ (Lit.int .i64 a3).wf = true ∧ (Lit.int .i64 a4).wf = true ∧ (Lit.int .i64 a5).wf = true ∧ (Lit.int .i64 a6).wf = true := by
  obtain ⟨xs, n, _, _, hl, hlen, hf⟩ := DataW.trod_struct Try.underlying25 h
  rw [show Try.prog.cellsOf 25 = 7 from by kernel_rfl] at hl
  match cs, hl, xs, hlen with
  | [c0, c1, c2, c3, c4, c5, c6], _, [y0, y1, y2, y3, y4], _ =>
    have h0 : DataW.trod enc Try.prog w base spare held n 4 (([c0, c1, c2, c3, c4, c5, c6].drop 0).take (Try.prog.cellsOf 4)) = some y0 := hf 0 _ rfl
    rw [show Try.prog.cellsOf 4 = 1 from by kernel_rfl] at h0
    replace h0 : DataW.trod enc Try.prog w base spare held n 4 [c0] = some y0 := h0
    obtain ⟨a0, e0, _⟩ := DataW.trod_bool Try.underlying4 h0
    simp only [List.cons.injEq, and_true] at e0
    subst e0
    have h1 : DataW.trod enc Try.prog w base spare held n 23 (([(.bool a0), c1, c2, c3, c4, c5, c6].drop 1).take (Try.prog.cellsOf 23)) = some y1 := hf 1 _ rfl
    rw [show Try.prog.cellsOf 23 = 3 from by kernel_rfl] at h1
    replace h1 : DataW.trod enc Try.prog w base spare held n 23 [c1, c2, c3] = some y1 := h1
    obtain ⟨a1, a2, a3, e1, w1, w2, w3⟩ := cells23 h1
    simp only [List.cons.injEq, and_true] at e1
    obtain ⟨rfl, rfl, rfl⟩ := e1
    have h2 : DataW.trod enc Try.prog w base spare held n 3 (([(.bool a0), (.int .i64 a1), (.int .i64 a2), (.int .i64 a3), c4, c5, c6].drop 4).take (Try.prog.cellsOf 3)) = some y2 := hf 2 _ rfl
    rw [show Try.prog.cellsOf 3 = 1 from by kernel_rfl] at h2
    replace h2 : DataW.trod enc Try.prog w base spare held n 3 [c4] = some y2 := h2
    obtain ⟨a4, e2, _, w4⟩ := DataW.trod_int Try.underlying3 h2
    simp only [List.cons.injEq, and_true] at e2
    subst e2
    have h3 : DataW.trod enc Try.prog w base spare held n 3 (([(.bool a0), (.int .i64 a1), (.int .i64 a2), (.int .i64 a3), (.int .i64 a4), c5, c6].drop 5).take (Try.prog.cellsOf 3)) = some y3 := hf 3 _ rfl
    rw [show Try.prog.cellsOf 3 = 1 from by kernel_rfl] at h3
    replace h3 : DataW.trod enc Try.prog w base spare held n 3 [c5] = some y3 := h3
    obtain ⟨a5, e3, _, w5⟩ := DataW.trod_int Try.underlying3 h3
    simp only [List.cons.injEq, and_true] at e3
    subst e3
    have h4 : DataW.trod enc Try.prog w base spare held n 3 (([(.bool a0), (.int .i64 a1), (.int .i64 a2), (.int .i64 a3), (.int .i64 a4), (.int .i64 a5), c6].drop 6).take (Try.prog.cellsOf 3)) = some y4 := hf 4 _ rfl
    rw [show Try.prog.cellsOf 3 = 1 from by kernel_rfl] at h4
    replace h4 : DataW.trod enc Try.prog w base spare held n 3 [c6] = some y4 := h4
    obtain ⟨a6, e4, _, w6⟩ := DataW.trod_int Try.underlying3 h4
    simp only [List.cons.injEq, and_true] at e4
    subst e4
    exact ⟨a0, a1, a2, a3, a4, a5, a6, rfl, w1, w2, w3, w4, w5, w6⟩
theorem open25 {H : Type} {enc : TypeId × Value → H} {w : World} {base b0 : Nat} {spare : Nat → Bool} {held : Bool} {r : Reach} {v : Value} {d : DataW H} {p : List MemPlace} (hv : Value.okWide Try.prog w r b0 25 v) (h : DataW.Trod enc Try.prog w base spare held 25 v d p) :
    ∃ (a0 : Bool) (a1 : Int) (a2 : Int) (a3 : Int) (a4 : Int) (a5 : Int) (a6 : Int), v = .agg #[.bool a0, .int .i64 a1, .int .i64 a2, .int .i64 a3, .int .i64 a4, .int .i64 a5, .int .i64 a6] ∧ (Lit.int .i64 a1).wf = true ∧ (Lit.int .i64 a2).wf = true ∧ (Lit.int .i64 a3).wf = true ∧ (Lit.int .i64 a4).wf = true ∧ (Lit.int .i64 a5).wf = true ∧ (Lit.int .i64 a6).wf = true := by
  obtain ⟨cs, rfl, _⟩ := okWide_struct Try.underlying25 hv
  obtain ⟨fuel, hf⟩ := h
  obtain ⟨a0, a1, a2, a3, a4, a5, a6, e, hw⟩ := cells25 hf
  obtain ⟨l⟩ := cs
  replace e : l = [.bool a0, .int .i64 a1, .int .i64 a2, .int .i64 a3, .int .i64 a4, .int .i64 a5, .int .i64 a6] := by simpa [Value.cells] using e
  subst e
  exact ⟨a0, a1, a2, a3, a4, a5, a6, rfl, hw⟩
end Go.Proofs.Ytkbfhonoamgjgaa
end
