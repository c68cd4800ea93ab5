/- The call of BoundHearing answers true, out of its pure statement. Conditions: none. -/
import Derived.Test.YtjmpgefhdafmfaaPureBoundHearing
namespace Go.Proofs.Ytjmpgefhdafmfaa.P
open Go.RowKit
theorem BoundHearing_walk (a0_0 : Int) (a0_1 : Int) (a1 : Int) (a2 : Int) (a3 : Int) (w : World) (w0_0 : (Lit.int .i64 a0_0).wf = true) (w0_1 : (Lit.int .i64 a0_1).wf = true) (w1 : (Lit.int .u32 a1).wf = true) (w2 : (Lit.int .u16 a2).wf = true) (w3 : (Lit.int .u16 a3).wf = true) :
    Calls Try.prog 10 #[.agg #[.int .i64 a0_0, .int .i64 a0_1], .int .u32 a1, .int .u16 a2, .int .u16 a3] w fun e w' => e = .returned (.bool true) ∧ Below w.heap.size w w' := by
  obtain ⟨k, h⟩ := BoundHearing_pure a0_0 a0_1 a1 a2 a3 w0_0 w0_1 w1 w2 w3
  refine (slotmeshlaw08_BoundHearing.calls k a0_0 a0_1 a1 a2 a3 true w h).mono ?_
  rintro e w' ⟨rfl, hd⟩
  exact ⟨rfl, hd⟩
end Go.Proofs.Ytjmpgefhdafmfaa.P
