/- The call of BoundNarrower answers true, out of its pure statement. Conditions: none. -/
import Derived.Test.YtjmpgefhdafmfaaPureBoundNarrower
namespace Go.Proofs.Ytjmpgefhdafmfaa.P
open Go.RowKit
theorem BoundNarrower_walk (a0_0 : Int) (a0_1 : Int) (a0_2 : Int) (a1 : Int) (a2 : Int) (a3 : Int) (a4_0 : Int) (a4_1 : Int) (a4_2 : Int) (w : World) (w0_0 : (Lit.int .i64 a0_0).wf = true) (w0_1 : (Lit.int .i64 a0_1).wf = true) (w0_2 : (Lit.int .i64 a0_2).wf = true) (w1 : (Lit.int .u16 a1).wf = true) (w2 : (Lit.int .u16 a2).wf = true) (w3 : (Lit.int .i64 a3).wf = true) (w4_0 : (Lit.int .i64 a4_0).wf = true) (w4_1 : (Lit.int .i64 a4_1).wf = true) (w4_2 : (Lit.int .i64 a4_2).wf = true) :
    Calls Try.prog 7 #[.agg #[.int .i64 a0_0, .int .i64 a0_1, .int .i64 a0_2], .int .u16 a1, .int .u16 a2, .int .i64 a3, .agg #[.int .i64 a4_0, .int .i64 a4_1, .int .i64 a4_2]] w fun e w' => e = .returned (.bool true) ∧ Below w.heap.size w w' := by
  obtain ⟨k, h⟩ := BoundNarrower_pure a0_0 a0_1 a0_2 a1 a2 a3 a4_0 a4_1 a4_2 w0_0 w0_1 w0_2 w1 w2 w3 w4_0 w4_1 w4_2
  refine (slotmeshlaw08_BoundNarrower.calls k a0_0 a0_1 a0_2 a1 a2 a3 a4_0 a4_1 a4_2 true w h).mono ?_
  rintro e w' ⟨rfl, hd⟩
  exact ⟨rfl, hd⟩
end Go.Proofs.Ytjmpgefhdafmfaa.P
