/- The pure statement of BoundWidths. Conditions: none. -/
import Derived.Test.YtjmpgefhdafmfaaPx9
import Derived.Test.YtjmpgefhdafmfaaBase
namespace Go.Proofs.Ytjmpgefhdafmfaa.P
open Go.RowKit Go.Proofs.YtjmpgefhdafmfaaW.PrintWords Go.Proofs.YtjmpgefhdafmfaaW.PrintLast Go.Proofs.YtjmpgefhdafmfaaW.PrintMore
set_option linter.unusedVariables false
set_option linter.unusedSimpArgs false
theorem BoundWidths_pure : ∀ (a0_0 : Int) (a0_1 : Int) (a0_2 : Int) (a1 : Int), (Lit.int .i64 a0_0).wf = true → (Lit.int .i64 a0_1).wf = true → (Lit.int .i64 a0_2).wf = true → (Lit.int .i64 a1).wf = true → ∃ k, slotmeshlaw08_BoundWidths.f k a0_0 a0_1 a0_2 a1 = some true := by
  intro l h a now w0 w1 w2 w3
  refine ⟨1 + 6, ?_⟩
  unfold slotmeshlaw08_BoundWidths.f slotmeshlaw08_head.f
  rw [Grow_eq]
  simp only [Option.bind_some]
  by_cases h1 : VP l h a ∧ a ≤ now ∧ now ≤ 20000000000000
  · by_cases h2 : VP (l - MO (now - a)) (h + MO (now - a)) now
    · have e : G l h a now = (l - MO (now - a), h + MO (now - a), now, 0) := by unfold G; rw [if_pos h1, if_pos h2]
      rw [e]
      simp only [if_true]
      rw [Width_eq, Width_eq]
      simp only [Option.bind_some]
      unfold WD
      rw [if_pos h2, if_pos h1.1]
      have hn : 0 ≤ now - a ∧ now - a ≤ 40000000000000 := by have := h1; unfold VP at this; omega
      have hm2 : 0 ≤ MO (now - a) ∧ MO (now - a) ≤ 3000000000 := by unfold MO; omega
      have hm : 1000000 * (MO (now - a) - 1) ≥ 51 * (now - a) ∧ 1000000 * (MO (now - a) - 2) < 51 * (now - a) := by unfold MO; omega
      generalize MO (now - a) = m at *
      obtain ⟨h1, h3, h4⟩ := h1
      unfold VP at h1 h2
      rw [show l - (l - m) = m from by omega, show h + m - h = m from by omega, w64 (x := m) (by omega), if_pos rfl, w64 (x := 2 * m) (by omega), w64 (x := h - l + 2 * m) (by omega), if_pos (by omega)]
      rw [w64 (x := m - 1) (by omega), w64 (x := m - 2) (by omega), w64 (x := (m - 1) * 1000000) (by omega), w64 (x := (m - 2) * 1000000) (by omega), w64 (x := now - a) (by omega), w64 (x := 51 * (now - a)) (by omega), if_pos (by omega), decide_eq_true (by omega)]
    · have e : G l h a now = (0, 0, 0, 3) := by unfold G; rw [if_pos h1, if_neg h2]
      rw [e]
      simp only [if_true]
      rw [Width_eq]
      rfl
  · have e : G l h a now = (0, 0, 0, 1) := by unfold G; rw [if_neg h1]
    rw [e]
    simp only [if_true]
    rw [Width_eq]
    rfl
end Go.Proofs.Ytjmpgefhdafmfaa.P
