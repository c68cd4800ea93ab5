/- The pure statement of BoundHearing. Conditions: none. -/
import Derived.Test.YtjmpgefhdafmfaaPx33
import Derived.Test.YtjmpgefhdafmfaaBase
import Derived.Test.YtjmpgefhdafmfaaClock
import Derived.Test.YtjmpgefhdafmfaaPureBoundGrowing
import Derived.Test.YtjmpgefhdafmfaaPureBoundNarrower
namespace Go.Proofs.Ytjmpgefhdafmfaa.P
open Go.RowKit Go.Proofs.YtjmpgefhdafmfaaW.PrintWords Go.Proofs.YtjmpgefhdafmfaaW.PrintLast Go.Proofs.YtjmpgefhdafmfaaW.PrintMore
set_option linter.unusedVariables false
set_option linter.unusedSimpArgs false
theorem BoundHearing_pure : ∀ (a0_0 : Int) (a0_1 : Int) (a1 : Int) (a2 : Int) (a3 : Int), (Lit.int .i64 a0_0).wf = true → (Lit.int .i64 a0_1).wf = true → (Lit.int .u32 a1).wf = true → (Lit.int .u16 a2).wf = true → (Lit.int .u16 a3).wf = true → ∃ k, slotmeshlaw08_BoundHearing.f k a0_0 a0_1 a1 a2 a3 = some true := by
  intro off d asn by_ early w0 w1 w2 w3 w4
  refine ⟨1 + 6, ?_⟩
  have b1 := wfu32 w2
  have b2 := wf16 w3
  have b3 := wf16 w4
  unfold slotmeshlaw08_BoundHearing.f slotmeshlaw08_head.f
  rw [w64 (x := by_) (by omega), w64 (x := asn) (by omega), w64 (x := early) (by omega), Int.tmod_eq_emod_of_nonneg b1.1, Int.tmod_eq_emod_of_nonneg b2.1]
  have c1 : 0 ≤ asn % 1000000000 ∧ asn % 1000000000 ≤ 999999999 := by omega
  have c2 : 0 ≤ by_ % 2001 ∧ by_ % 2001 ≤ 2000 := by omega
  generalize asn % 1000000000 = n at *
  generalize by_ % 2001 = b at *
  rw [w64 (x := 2 * b) (by omega), w64 (x := 2 * b + 1) (by omega), Int.tmod_eq_emod_of_nonneg b3.1]
  have c3 : 0 ≤ early % (2 * b + 1) ∧ early % (2 * b + 1) ≤ 2 * b := ⟨Int.emod_nonneg _ (by omega), by have := Int.emod_lt_of_pos early (show 0 < 2 * b + 1 by omega); omega⟩
  generalize early % (2 * b + 1) = f at *
  rw [w64 (x := n * 10000) (by omega), w64 (x := n * 10000 - b) (by omega), w64 (x := n * 10000 - b + f) (by omega)]
  simp only [Option.bind_some]
  rw [if_neg (by omega), Show_eq]
  simp only [Option.bind_some]
  by_cases h1 : CV off d ∧ 0 ≤ n * 10000 - b + f ∧ n * 10000 - b + f ≤ 10000000000000
  · rw [if_pos h1]
    simp only [if_true]
    have n1 := AT_near h1.1 h1.2.1 h1.2.2
    rw [Heard_eq]
    have hd : HD b n (AT off d (n * 10000 - b + f)) = (n * 10000 - AT off d (n * 10000 - b + f) - b, n * 10000 - AT off d (n * 10000 - b + f) + b, AT off d (n * 10000 - b + f), 0) := by unfold HD; rw [if_pos (by omega)]
    rw [hd]
    generalize AT off d (n * 10000 - b + f) = s at *
    simp only [Option.bind_some, if_true]
    rw [True_eq _ _ _ _ _ (by omega), decide_eq_true ⟨rfl, by omega, by omega⟩]
    simp only [Option.bind_some, if_true]
    rw [Width_eq]
    have hw : WD (n * 10000 - s - b) (n * 10000 - s + b) s = 2 * b := by unfold WD; rw [if_pos (by unfold VP; omega)]; omega
    rw [hw]
    simp
  · rw [if_neg h1]
    rfl
end Go.Proofs.Ytjmpgefhdafmfaa.P
