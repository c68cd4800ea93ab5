/- The call of BoundLater answers true, out of its pure statement. Conditions: none. -/
import Derived.Test.YtjmpgefhdafmfaaPureBoundLater
namespace Go.Proofs.Ytjmpgefhdafmfaa.P
open Go.RowKit
theorem BoundLater_walk (a0_0 : Int) (a0_1 : Int) (a0_2 : Int) (a1 : Int) (a2 : Int) (w : World) (w0_0 : (Lit.int .i64 a0_0).wf = true) (w0_1 : (Lit.int .i64 a0_1).wf = true) (w0_2 : (Lit.int .i64 a0_2).wf = true) (w1 : (Lit.int .i64 a1).wf = true) (w2 : (Lit.int .i64 a2).wf = true) :
    Calls Try.prog 5 #[.agg #[.int .i64 a0_0, .int .i64 a0_1, .int .i64 a0_2], .int .i64 a1, .int .i64 a2] w fun e w' => e = .returned (.bool true) ∧ Below w.heap.size w w' := by
  obtain ⟨k, h⟩ := BoundLater_pure a0_0 a0_1 a0_2 a1 a2 w0_0 w0_1 w0_2 w1 w2
  refine (slotmeshlaw08_BoundLater.calls k a0_0 a0_1 a0_2 a1 a2 true w h).mono ?_
  rintro e w' ⟨rfl, hd⟩
  exact ⟨rfl, hd⟩
end Go.Proofs.Ytjmpgefhdafmfaa.P
