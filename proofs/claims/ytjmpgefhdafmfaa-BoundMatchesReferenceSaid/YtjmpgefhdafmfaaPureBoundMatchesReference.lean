/- The pure statement of BoundMatchesReference. Conditions: none. -/
import Derived.Test.YtjmpgefhdafmfaaPx19
import Derived.Test.YtjmpgefhdafmfaaBase
import Derived.Test.YtjmpgefhdafmfaaRefBase
namespace Go.Proofs.Ytjmpgefhdafmfaa.P
open Go.RowKit Go.Proofs.YtjmpgefhdafmfaaW.PrintWords Go.Proofs.YtjmpgefhdafmfaaW.PrintLast Go.Proofs.YtjmpgefhdafmfaaW.PrintMore
set_option linter.unusedVariables false
set_option linter.unusedSimpArgs false
theorem BoundMatchesReference_pure : ∀ (a0_0 : Int) (a0_1 : Int) (a0_2 : Int) (a1_0 : Int) (a1_1 : Int) (a1_2 : Int) (a2 : Int) (a3_0 : Int) (a3_1 : Int) (a3_2 : Int) (a3_3 : Int) (a3_4 : Int), (Lit.int .i64 a0_0).wf = true → (Lit.int .i64 a0_1).wf = true → (Lit.int .i64 a0_2).wf = true → (Lit.int .i64 a1_0).wf = true → (Lit.int .i64 a1_1).wf = true → (Lit.int .i64 a1_2).wf = true → (Lit.int .i64 a2).wf = true → (Lit.int .i64 a3_0).wf = true → (Lit.int .i64 a3_1).wf = true → (Lit.int .i64 a3_2).wf = true → (Lit.int .i64 a3_3).wf = true → (Lit.int .i64 a3_4).wf = true → ∃ k, slotmeshlaw08_BoundMatchesReference.f k a0_0 a0_1 a0_2 a1_0 a1_1 a1_2 a2 a3_0 a3_1 a3_2 a3_3 a3_4 = some true := by
  intro a0 a1 a2 b0 b1 b2 now f0 f1 f2 f3 f4 _ _ _ _ _ _ _ _ _ _ _ _
  refine ⟨0 + 6, ?_⟩
  unfold slotmeshlaw08_BoundMatchesReference.f slotmeshlaw08_head.f bound_Valid.f
  rw [Grow_eq, show 0 + 6 = 5 + 1 from rfl, rgrow_eq, show 5 + 1 = 0 + 6 from rfl, Meet_eq, show 0 + 6 = 5 + 1 from rfl, rmeet_eq, show 5 + 1 = 0 + 6 from rfl, Heard_eq, rheard_eq, show 0 + 6 = 1 + 5 from rfl, valid_eq, rvalid_eq, show 1 + 5 = 0 + 6 from rfl, Width_eq, rwidth_eq]
  simp
end Go.Proofs.Ytjmpgefhdafmfaa.P
