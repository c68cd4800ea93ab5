/- The pure statement of BoundOrder. Conditions: none. -/
import Derived.Test.YtjmpgefhdafmfaaPx21
import Derived.Test.YtjmpgefhdafmfaaBase
namespace Go.Proofs.Ytjmpgefhdafmfaa.P
open Go.RowKit Go.Proofs.YtjmpgefhdafmfaaW.PrintWords Go.Proofs.YtjmpgefhdafmfaaW.PrintLast Go.Proofs.YtjmpgefhdafmfaaW.PrintMore
set_option linter.unusedVariables false
set_option linter.unusedSimpArgs false
theorem M_cases (a0 a1 a2 b0 b1 b2 : Int) :
    (VP a0 a1 a2 ∧ VP b0 b1 b2 ∧ VP (a0 - dl a2 b2) (a1 + dl a2 b2) (mx a2 b2) ∧ VP (b0 - dl b2 a2) (b1 + dl b2 a2) (mx a2 b2) ∧ M a0 a1 a2 b0 b1 b2 = (mx (a0 - dl a2 b2) (b0 - dl b2 a2), mn (a1 + dl a2 b2) (b1 + dl b2 a2), mx a2 b2, 0))
    ∨ ∃ e, e ≠ 0 ∧ M a0 a1 a2 b0 b1 b2 = (0, 0, 0, e) := by
  unfold M
  split
  · rename_i h1
    split
    · rename_i h2
      split
      · exact .inr ⟨16, by decide, rfl⟩
      · exact .inl ⟨h1.1, h1.2, h2.1, h2.2, rfl⟩
    · exact .inr ⟨3, by decide, rfl⟩
  · exact .inr ⟨1, by decide, rfl⟩
theorem order_end (k : Nat) (X0 X1 Y0 Y1 t : Int) : slotmeshlaw08_BoundOrder.j1 (k + 1) true 0 0 X0 X1 t Y0 Y1 t (mx X0 Y0) (mn X1 Y1) t = some true := by
  simp only [slotmeshlaw08_BoundOrder.j1, slotmeshlaw08_inside.f, if_true]
  have h1 : mx X0 Y0 ≥ X0 ∧ mx X0 Y0 ≥ Y0 ∧ (mx X0 Y0 = X0 ∨ mx X0 Y0 = Y0) := by unfold mx; split <;> omega
  have h2 : mn X1 Y1 ≤ X1 ∧ mn X1 Y1 ≤ Y1 ∧ (mn X1 Y1 = X1 ∨ mn X1 Y1 = Y1) := by unfold mn; split <;> omega
  generalize mx X0 Y0 = m at *
  generalize mn X1 Y1 = n at *
  rw [if_pos h1.1, if_pos h1.2.1, decide_eq_true h2.1, decide_eq_true h2.2.1]
  simp only [Option.bind_some, if_true]
  rcases h1.2.2 with e | e <;> rcases h2.2.2 with f | f <;> subst e <;> subst f <;> simp <;> (try split) <;> (try split) <;> simp_all
theorem BoundOrder_pure : ∀ (a0_0 : Int) (a0_1 : Int) (a0_2 : Int) (a1_0 : Int) (a1_1 : Int) (a1_2 : Int), (Lit.int .i64 a0_0).wf = true → (Lit.int .i64 a0_1).wf = true → (Lit.int .i64 a0_2).wf = true → (Lit.int .i64 a1_0).wf = true → (Lit.int .i64 a1_1).wf = true → (Lit.int .i64 a1_2).wf = true → ∃ k, slotmeshlaw08_BoundOrder.f k a0_0 a0_1 a0_2 a1_0 a1_1 a1_2 = some true := by
  intro a0 a1 a2 b0 b1 b2 _ _ _ _ _ _
  refine ⟨2 + 6, ?_⟩
  unfold slotmeshlaw08_BoundOrder.f slotmeshlaw08_head.f
  rw [Meet_eq, Meet_eq, M_comm b0 b1 b2 a0 a1 a2]
  simp only [Option.bind_some, beq_self_eq_true, Bool.not_true, Bool.or_self, Bool.false_eq_true, if_false, bne_self_eq_false]
  rw [show 2 + 6 = 7 + 1 from rfl]
  rcases M_cases a0 a1 a2 b0 b1 b2 with ⟨h1, h2, h3, h4, e⟩ | ⟨er, he, e⟩
  · rw [e]
    simp only [slotmeshlaw08_BoundOrder.j0, Bool.false_eq_true, if_false, if_true]
    have v1 := h1
    have v2 := h2
    unfold VP at v1 v2
    by_cases c1 : a2 < b2
    · have d1 : dl a2 b2 = MO (b2 - a2) := by unfold dl; rw [if_neg (by omega)]
      have d2 : dl b2 a2 = 0 := by unfold dl; rw [if_pos (by omega)]
      have d3 : mx a2 b2 = b2 := by unfold mx; rw [if_pos c1]
      rw [d1, d3] at h3
      have g : G a0 a1 a2 b2 = (a0 - MO (b2 - a2), a1 + MO (b2 - a2), b2, 0) := by unfold G; rw [if_pos ⟨h1, by omega, by omega⟩, if_pos h3]
      rw [if_pos c1, show 7 = 1 + 6 from rfl, Grow_eq, g, d1, d2, d3, Int.sub_zero, Int.add_zero]
      exact order_end 6 _ _ _ _ _
    · by_cases c2 : b2 < a2
      · have d1 : dl a2 b2 = 0 := by unfold dl; rw [if_pos (by omega)]
        have d2 : dl b2 a2 = MO (a2 - b2) := by unfold dl; rw [if_neg (by omega)]
        have d3 : mx a2 b2 = a2 := by unfold mx; rw [if_neg c1]
        rw [d2, d3] at h4
        have g : G b0 b1 b2 a2 = (b0 - MO (a2 - b2), b1 + MO (a2 - b2), a2, 0) := by unfold G; rw [if_pos ⟨h2, by omega, by omega⟩, if_pos h4]
        rw [if_neg c1, if_pos c2, show 7 = 1 + 6 from rfl, Grow_eq, g, d1, d2, d3, Int.sub_zero, Int.add_zero]
        exact order_end 6 _ _ _ _ _
      · obtain rfl : a2 = b2 := by omega
        have d1 : dl a2 a2 = MO (a2 - a2) := by unfold dl; rw [if_neg (by omega)]
        have d3 : mx a2 a2 = a2 := by unfold mx; split <;> rfl
        rw [d1, d3] at h3 h4
        have g : G a0 a1 a2 a2 = (a0 - MO (a2 - a2), a1 + MO (a2 - a2), a2, 0) := by unfold G; rw [if_pos ⟨h1, by omega, by omega⟩, if_pos h3]
        have g2 : G b0 b1 a2 a2 = (b0 - MO (a2 - a2), b1 + MO (a2 - a2), a2, 0) := by unfold G; rw [if_pos ⟨h2, by omega, by omega⟩, if_pos h4]
        rw [if_neg c1, if_neg c2, show 7 = 1 + 6 from rfl, Grow_eq, Grow_eq, g, g2, d1, d3]
        exact order_end 6 _ _ _ _ _
  · rw [e]
    simp only [slotmeshlaw08_BoundOrder.j0, Bool.false_eq_true, if_false, if_true]
    rw [if_neg he]
    rfl
end Go.Proofs.Ytjmpgefhdafmfaa.P
