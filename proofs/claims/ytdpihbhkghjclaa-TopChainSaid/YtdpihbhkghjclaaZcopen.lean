/- A claim's own texts, laid together by wip/zip.py without what the claim does not use. Conditions: none. -/
import Derived.Test.YtdpihbhkghjclaaProg
import Derived.WalkKit
import Derived.ProofKit
import Derived.ChangeArms
import Derived.WideShapes
import Derived.KernelRfl
import Derived.Deep.Slices
import Derived.Test.YtdpihbhkghjclaaZcpx0
section
/- Struct parameters of the laws, laid open: the values' own cells. Conditions: none. -/
namespace Go.Proofs.Ytdpihbhkghjclaa
open Go.ChangeShapes Go.WideShapes Go.RowKit Go.Proofs.YtdpihbhkghjclaaW.PrintWords
set_option linter.unusedVariables false
set_option maxRecDepth 100000
theorem cells27 {H : Type} {enc : TypeId × Value → H} {w : World} {base : Nat} {spare : Nat → Bool} {held : Bool} {fuel : Nat} {cs : List Value} {x : DataW H × List MemPlace} (h : DataW.trod enc Try.prog w base spare held fuel 27 cs = some x) :
    ∃ (a0 : Int) (a1 : Int), cs = [.int .i64 a0, .int .i64 a1] ∧ (Lit.int .i64 a0).wf = true ∧ (Lit.int .i64 a1).wf = true := by
  obtain ⟨xs, n, _, _, hl, hlen, hf⟩ := DataW.trod_struct Try.underlying27 h
  rw [show Try.prog.cellsOf 27 = 2 from by kernel_rfl] at hl
  match cs, hl, xs, hlen with
  | [c0, c1], _, [y0, y1], _ =>
    have h0 : DataW.trod enc Try.prog w base spare held n 3 (([c0, c1].drop 0).take (Try.prog.cellsOf 3)) = some y0 := hf 0 _ rfl
    rw [show Try.prog.cellsOf 3 = 1 from by kernel_rfl] at h0
    replace h0 : DataW.trod enc Try.prog w base spare held n 3 [c0] = some y0 := h0
    obtain ⟨a0, e0, _, w0⟩ := DataW.trod_int Try.underlying3 h0
    simp only [List.cons.injEq, and_true] at e0
    subst e0
    have h1 : DataW.trod enc Try.prog w base spare held n 3 (([(.int .i64 a0), c1].drop 1).take (Try.prog.cellsOf 3)) = some y1 := hf 1 _ rfl
    rw [show Try.prog.cellsOf 3 = 1 from by kernel_rfl] at h1
    replace h1 : DataW.trod enc Try.prog w base spare held n 3 [c1] = some y1 := h1
    obtain ⟨a1, e1, _, w1⟩ := DataW.trod_int Try.underlying3 h1
    simp only [List.cons.injEq, and_true] at e1
    subst e1
    exact ⟨a0, a1, rfl, w0, w1⟩
theorem cells42 {H : Type} {enc : TypeId × Value → H} {w : World} {base : Nat} {spare : Nat → Bool} {held : Bool} {fuel : Nat} {cs : List Value} {x : DataW H × List MemPlace} (h : DataW.trod enc Try.prog w base spare held fuel 42 cs = some x) :
    ∃ (a0 : Int) (a1 : Int) (a2 : Int), cs = [.int .u8 a0, .int .u8 a1, .int .u16 a2] ∧ (Lit.int .u8 a0).wf = true ∧ (Lit.int .u8 a1).wf = true ∧ (Lit.int .u16 a2).wf = true := by
  obtain ⟨xs, n, _, _, hl, hlen, hf⟩ := DataW.trod_struct Try.underlying42 h
  rw [show Try.prog.cellsOf 42 = 3 from by kernel_rfl] at hl
  match cs, hl, xs, hlen with
  | [c0, c1, c2], _, [y0, y1, y2], _ =>
    have h0 : DataW.trod enc Try.prog w base spare held n 5 (([c0, c1, c2].drop 0).take (Try.prog.cellsOf 5)) = some y0 := hf 0 _ rfl
    rw [show Try.prog.cellsOf 5 = 1 from by kernel_rfl] at h0
    replace h0 : DataW.trod enc Try.prog w base spare held n 5 [c0] = some y0 := h0
    obtain ⟨a0, e0, _, w0⟩ := DataW.trod_int Try.underlying5 h0
    simp only [List.cons.injEq, and_true] at e0
    subst e0
    have h1 : DataW.trod enc Try.prog w base spare held n 5 (([(.int .u8 a0), c1, c2].drop 1).take (Try.prog.cellsOf 5)) = some y1 := hf 1 _ rfl
    rw [show Try.prog.cellsOf 5 = 1 from by kernel_rfl] at h1
    replace h1 : DataW.trod enc Try.prog w base spare held n 5 [c1] = some y1 := h1
    obtain ⟨a1, e1, _, w1⟩ := DataW.trod_int Try.underlying5 h1
    simp only [List.cons.injEq, and_true] at e1
    subst e1
    have h2 : DataW.trod enc Try.prog w base spare held n 40 (([(.int .u8 a0), (.int .u8 a1), c2].drop 2).take (Try.prog.cellsOf 40)) = some y2 := hf 2 _ rfl
    rw [show Try.prog.cellsOf 40 = 1 from by kernel_rfl] at h2
    replace h2 : DataW.trod enc Try.prog w base spare held n 40 [c2] = some y2 := h2
    obtain ⟨a2, e2, _, w2⟩ := DataW.trod_int Try.underlying40 h2
    simp only [List.cons.injEq, and_true] at e2
    subst e2
    exact ⟨a0, a1, a2, rfl, w0, w1, w2⟩
def P.W27 (x : P.S27) : Prop := (Lit.int .i64 x.f0).wf = true ∧ (Lit.int .i64 x.f1).wf = true
theorem opens34 {H : Type} {enc : TypeId × Value → H} {w : World} {base b0 : Nat} {spare : Nat → Bool} {held : Bool} {r : Reach} {v : Value} {d : DataW H} {p : List MemPlace} (hv : Value.okWide Try.prog w r b0 34 v) (h : DataW.Trod enc Try.prog w base spare held 34 v d p) :
    ∃ (a : Option Addr) (c : Nat) (l : List P.S27), v = .slice a l.length c ∧ l.length ≤ c ∧ Kd.C P.k27 w a l.length l ∧ ∀ x ∈ l, P.W27 x := by
  obtain ⟨a, n, c, rfl⟩ := okWide_slice Try.underlying34 hv
  obtain ⟨fuel, hf⟩ := h
  rcases Go.Deep.open_slice Try.underlying34 hf with ⟨h0, _⟩ | ⟨b, len, cap, m, k, D, Pl, h0, hb, hl, hm, hmm, _, hx⟩
  · simp [Value.cells] at h0
    obtain ⟨rfl, rfl, rfl⟩ := h0
    exact ⟨none, 0, [], rfl, Nat.le_refl _, Kd.C_nil _ _, by simp⟩
  · simp [Value.cells] at h0
    obtain ⟨rfl, rfl, rfl⟩ := h0
    have hlm : n ≤ m := by rw [hmm]; split <;> omega
    have each : ∀ i, i < n → ∃ q : P.S27, w.cells? base (b.add (i * 2)) 2 = some [.int .i64 q.f0, .int .i64 q.f1] ∧ P.W27 q := by
      intro i hi
      obtain ⟨cs', h1, h2⟩ := hx i (by omega)
      rw [show Try.prog.cellsOf 27 = 2 from by kernel_rfl] at h1
      obtain ⟨a0, a1, e', hw⟩ := cells27 h2
      subst e'
      exact ⟨⟨a0, a1⟩, h1, hw⟩
    haveI : Inhabited P.S27 := ⟨P.z27⟩
    obtain ⟨q, hq⟩ := Go.Deep.choose_lt each
    have hlen : ((List.range n).map q).length = n := by simp
    refine ⟨some b, c, (List.range n).map q, by rw [hlen], by rw [hlen]; exact hl, ?_, ?_⟩
    · refine ⟨rfl, by rw [hlen]; exact Nat.le_trans (Nat.le_trans hl hm) (by decide), fun _ => ⟨b, rfl, fun j x hj => ?_⟩⟩
      have hjn : j < n := by have := (List.getElem?_eq_some_iff.1 hj).1; rw [hlen] at this; exact this
      have hxj : x = q j := by simpa [List.getElem?_map, List.getElem?_range hjn] using hj.symm
      subst hxj
      refine ⟨_, rfl, P.k27_mk w (q j), fun i u hi => ?_⟩
      obtain ⟨_, _, hcell⟩ := World.cells?_some (hq j hjn).1
      have hin : i < 2 := (List.getElem?_eq_some_iff.1 hi).1
      have := hcell i hin
      have h5 := hcell i hin
      simp only [add_add] at h5
      exact h5.trans hi
    · intro x hx'
      obtain ⟨j, hj, rfl⟩ := List.mem_map.1 hx'
      exact (hq j (List.mem_range.1 hj)).2
def P.W42 (x : P.S42) : Prop := (Lit.int .u8 x.f0).wf = true ∧ (Lit.int .u8 x.f1).wf = true ∧ (Lit.int .u16 x.f2).wf = true
theorem opens35 {H : Type} {enc : TypeId × Value → H} {w : World} {base b0 : Nat} {spare : Nat → Bool} {held : Bool} {r : Reach} {v : Value} {d : DataW H} {p : List MemPlace} (hv : Value.okWide Try.prog w r b0 35 v) (h : DataW.Trod enc Try.prog w base spare held 35 v d p) :
    ∃ (a : Option Addr) (c : Nat) (l : List P.S42), v = .slice a l.length c ∧ l.length ≤ c ∧ Kd.C P.k42 w a l.length l ∧ ∀ x ∈ l, P.W42 x := by
  obtain ⟨a, n, c, rfl⟩ := okWide_slice Try.underlying35 hv
  obtain ⟨fuel, hf⟩ := h
  rcases Go.Deep.open_slice Try.underlying35 hf with ⟨h0, _⟩ | ⟨b, len, cap, m, k, D, Pl, h0, hb, hl, hm, hmm, _, hx⟩
  · simp [Value.cells] at h0
    obtain ⟨rfl, rfl, rfl⟩ := h0
    exact ⟨none, 0, [], rfl, Nat.le_refl _, Kd.C_nil _ _, by simp⟩
  · simp [Value.cells] at h0
    obtain ⟨rfl, rfl, rfl⟩ := h0
    have hlm : n ≤ m := by rw [hmm]; split <;> omega
    have each : ∀ i, i < n → ∃ q : P.S42, w.cells? base (b.add (i * 3)) 3 = some [.int .u8 q.f0, .int .u8 q.f1, .int .u16 q.f2] ∧ P.W42 q := by
      intro i hi
      obtain ⟨cs', h1, h2⟩ := hx i (by omega)
      rw [show Try.prog.cellsOf 42 = 3 from by kernel_rfl] at h1
      obtain ⟨a0, a1, a2, e', hw⟩ := cells42 h2
      subst e'
      exact ⟨⟨a0, a1, a2⟩, h1, hw⟩
    haveI : Inhabited P.S42 := ⟨P.z42⟩
    obtain ⟨q, hq⟩ := Go.Deep.choose_lt each
    have hlen : ((List.range n).map q).length = n := by simp
    refine ⟨some b, c, (List.range n).map q, by rw [hlen], by rw [hlen]; exact hl, ?_, ?_⟩
    · refine ⟨rfl, by rw [hlen]; exact Nat.le_trans (Nat.le_trans hl hm) (by decide), fun _ => ⟨b, rfl, fun j x hj => ?_⟩⟩
      have hjn : j < n := by have := (List.getElem?_eq_some_iff.1 hj).1; rw [hlen] at this; exact this
      have hxj : x = q j := by simpa [List.getElem?_map, List.getElem?_range hjn] using hj.symm
      subst hxj
      refine ⟨_, rfl, P.k42_mk w (q j), fun i u hi => ?_⟩
      obtain ⟨_, _, hcell⟩ := World.cells?_some (hq j hjn).1
      have hin : i < 3 := (List.getElem?_eq_some_iff.1 hi).1
      have := hcell i hin
      have h5 := hcell i hin
      simp only [add_add] at h5
      exact h5.trans hi
    · intro x hx'
      obtain ⟨j, hj, rfl⟩ := List.mem_map.1 hx'
      exact (hq j (List.mem_range.1 hj)).2
end Go.Proofs.Ytdpihbhkghjclaa
end
