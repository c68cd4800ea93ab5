/- The call of BoundMatchesReference answers true, out of its pure statement. Conditions: none. -/
import Derived.Test.YtjmpgefhdafmfaaPureBoundMatchesReference
namespace Go.Proofs.Ytjmpgefhdafmfaa.P
open Go.RowKit
theorem BoundMatchesReference_walk (a0_0 : Int) (a0_1 : Int) (a0_2 : Int) (a1_0 : Int) (a1_1 : Int) (a1_2 : Int) (a2 : Int) (a3_0 : Int) (a3_1 : Int) (a3_2 : Int) (a3_3 : Int) (a3_4 : Int) (w : World) (w0_0 : (Lit.int .i64 a0_0).wf = true) (w0_1 : (Lit.int .i64 a0_1).wf = true) (w0_2 : (Lit.int .i64 a0_2).wf = true) (w1_0 : (Lit.int .i64 a1_0).wf = true) (w1_1 : (Lit.int .i64 a1_1).wf = true) (w1_2 : (Lit.int .i64 a1_2).wf = true) (w2 : (Lit.int .i64 a2).wf = true) (w3_0 : (Lit.int .i64 a3_0).wf = true) (w3_1 : (Lit.int .i64 a3_1).wf = true) (w3_2 : (Lit.int .i64 a3_2).wf = true) (w3_3 : (Lit.int .i64 a3_3).wf = true) (w3_4 : (Lit.int .i64 a3_4).wf = true) :
    Calls Try.prog 3 #[.agg #[.int .i64 a0_0, .int .i64 a0_1, .int .i64 a0_2], .agg #[.int .i64 a1_0, .int .i64 a1_1, .int .i64 a1_2], .int .i64 a2, .agg #[.int .i64 a3_0, .int .i64 a3_1, .int .i64 a3_2, .int .i64 a3_3, .int .i64 a3_4]] w fun e w' => e = .returned (.bool true) ∧ Below w.heap.size w w' := by
  obtain ⟨k, h⟩ := BoundMatchesReference_pure a0_0 a0_1 a0_2 a1_0 a1_1 a1_2 a2 a3_0 a3_1 a3_2 a3_3 a3_4 w0_0 w0_1 w0_2 w1_0 w1_1 w1_2 w2 w3_0 w3_1 w3_2 w3_3 w3_4
  refine (slotmeshlaw08_BoundMatchesReference.calls k a0_0 a0_1 a0_2 a1_0 a1_1 a1_2 a2 a3_0 a3_1 a3_2 a3_3 a3_4 true w h).mono ?_
  rintro e w' ⟨rfl, hd⟩
  exact ⟨rfl, hd⟩
end Go.Proofs.Ytjmpgefhdafmfaa.P
