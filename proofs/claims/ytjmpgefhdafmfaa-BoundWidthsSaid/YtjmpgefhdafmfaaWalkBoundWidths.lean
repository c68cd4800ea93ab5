/- The call of BoundWidths answers true, out of its pure statement. Conditions: none. -/
import Derived.Test.YtjmpgefhdafmfaaPureBoundWidths
namespace Go.Proofs.Ytjmpgefhdafmfaa.P
open Go.RowKit
theorem BoundWidths_walk (a0_0 : Int) (a0_1 : Int) (a0_2 : Int) (a1 : Int) (w : World) (w0_0 : (Lit.int .i64 a0_0).wf = true) (w0_1 : (Lit.int .i64 a0_1).wf = true) (w0_2 : (Lit.int .i64 a0_2).wf = true) (w1 : (Lit.int .i64 a1).wf = true) :
    Calls Try.prog 6 #[.agg #[.int .i64 a0_0, .int .i64 a0_1, .int .i64 a0_2], .int .i64 a1] w fun e w' => e = .returned (.bool true) ∧ Below w.heap.size w w' := by
  obtain ⟨k, h⟩ := BoundWidths_pure a0_0 a0_1 a0_2 a1 w0_0 w0_1 w0_2 w1
  refine (slotmeshlaw08_BoundWidths.calls k a0_0 a0_1 a0_2 a1 true w h).mono ?_
  rintro e w' ⟨rfl, hd⟩
  exact ⟨rfl, hd⟩
end Go.Proofs.Ytjmpgefhdafmfaa.P
