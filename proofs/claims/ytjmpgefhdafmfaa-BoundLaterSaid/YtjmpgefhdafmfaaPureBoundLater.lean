/- The pure statement of BoundLater. Conditions: none. -/
import Derived.Test.YtjmpgefhdafmfaaPx8
import Derived.Test.YtjmpgefhdafmfaaBase
namespace Go.Proofs.Ytjmpgefhdafmfaa.P
open Go.RowKit Go.Proofs.YtjmpgefhdafmfaaW.PrintWords Go.Proofs.YtjmpgefhdafmfaaW.PrintLast Go.Proofs.YtjmpgefhdafmfaaW.PrintMore
set_option linter.unusedVariables false
set_option linter.unusedSimpArgs false
theorem G_ok {l h a now : Int} (h1 : VP l h a) (h2 : a ≤ now) (h3 : now ≤ 20000000000000) (h4 : VP (l - MO (now - a)) (h + MO (now - a)) now) : G l h a now = (l - MO (now - a), h + MO (now - a), now, 0) := by
  unfold G; rw [if_pos ⟨h1, h2, h3⟩, if_pos h4]
theorem G_range {l h a now : Int} (h1 : VP l h a) (h2 : a ≤ now) (h3 : now ≤ 20000000000000) (h4 : ¬ VP (l - MO (now - a)) (h + MO (now - a)) now) : G l h a now = (0, 0, 0, 3) := by
  unfold G; rw [if_pos ⟨h1, h2, h3⟩, if_neg h4]
theorem G_arg {l h a now : Int} (h1 : ¬ (VP l h a ∧ a ≤ now ∧ now ≤ 20000000000000)) : G l h a now = (0, 0, 0, 1) := by
  unfold G; rw [if_neg h1]
theorem BoundLater_pure : ∀ (a0_0 : Int) (a0_1 : Int) (a0_2 : Int) (a1 : Int) (a2 : Int), (Lit.int .i64 a0_0).wf = true → (Lit.int .i64 a0_1).wf = true → (Lit.int .i64 a0_2).wf = true → (Lit.int .i64 a1).wf = true → (Lit.int .i64 a2).wf = true → ∃ k, slotmeshlaw08_BoundLater.f k a0_0 a0_1 a0_2 a1 a2 = some true := by
  intro l h a x y w0 w1 w2 w3 w4
  refine ⟨1 + 6, ?_⟩
  unfold slotmeshlaw08_BoundLater.f slotmeshlaw08_head.f
  rw [Grow_eq, Grow_eq]
  simp only [Option.bind_some]
  have hxy : mn x y ≤ mx x y := by unfold mn mx; split <;> split <;> omega
  generalize mn x y = u at *
  generalize mx x y = v at *
  rw [show 1 + 6 = 6 + 1 from rfl]
  simp only [slotmeshlaw08_BoundLater.j0]
  by_cases h1 : VP l h a ∧ a ≤ u ∧ u ≤ 20000000000000
  · obtain ⟨h1, h2, h3⟩ := h1
    by_cases h4 : VP (l - MO (u - a)) (h + MO (u - a)) u
    · rw [G_ok h1 h2 h3 h4]
      simp only [if_true]
      by_cases h5 : v ≤ 20000000000000
      · by_cases h6 : VP (l - MO (v - a)) (h + MO (v - a)) v
        · rw [G_ok h1 (by omega) h5 h6]
          simp only [bne_self_eq_false, Bool.false_eq_true, if_false]
          rw [show 6 = 0 + 6 from rfl, Grow_eq]
          simp only [Option.bind_some]
          by_cases h7 : VP (l - MO (u - a) - MO (v - u)) (h + MO (u - a) + MO (v - u)) v
          · rw [G_ok h4 hxy h5 h7]
            simp only [if_true]
            unfold slotmeshlaw08_inside.f
            have hm : MO (v - a) ≤ MO (u - a) + MO (v - u) ∧ MO (u - a) + MO (v - u) - MO (v - a) ≤ 2 ∧ MO (u - a) ≤ MO (v - a) := by unfold MO; omega
            have hp : 0 ≤ MO (u - a) ∧ 0 ≤ MO (v - u) ∧ 0 ≤ MO (v - a) := by unfold MO; omega
            generalize MO (u - a) = m1 at *
            generalize MO (v - u) = m2 at *
            generalize MO (v - a) = m3 at *
            unfold VP at h1 h4 h6 h7
            rw [if_pos rfl, if_pos (by omega)]
            simp only [Option.bind_some]
            rw [decide_eq_true (by omega)]
            simp only [if_true]
            rw [if_pos (by unfold wrap64; omega), if_pos (by unfold wrap64; omega), if_pos (by omega), decide_eq_true (by omega)]
          · rw [G_range h4 hxy h5 h7]
            rfl
        · rw [G_range h1 (by omega) h5 h6]
          rfl
      · rw [G_arg (fun hh => h5 hh.2.2)]
        rfl
    · rw [G_range h1 h2 h3 h4]
      rfl
  · rw [G_arg h1]
    rfl
end Go.Proofs.Ytjmpgefhdafmfaa.P
