/- Plain laws of the reference functions of layer 8. Conditions: none. -/
import Derived.Test.YtjmpgefhdafmfaaPx14
import Derived.Test.YtjmpgefhdafmfaaPx15
import Derived.Test.YtjmpgefhdafmfaaPx17
import Derived.Test.YtjmpgefhdafmfaaPx18
import Derived.Test.YtjmpgefhdafmfaaBase
namespace Go.Proofs.Ytjmpgefhdafmfaa.P
open Go.RowKit Go.Proofs.YtjmpgefhdafmfaaW.PrintWords Go.Proofs.YtjmpgefhdafmfaaW.PrintLast Go.Proofs.YtjmpgefhdafmfaaW.PrintMore
set_option linter.unusedVariables false
set_option linter.unusedSimpArgs false
theorem rvalid_eq (l h a : Int) : slotmeshref08_Valid.f l h a = some (decide (VP l h a)) := by
  unfold slotmeshref08_Valid.f VP
  by_cases h1 : l ≥ -20000000000000 <;> by_cases h2 : l ≤ h <;> by_cases h3 : h ≤ 20000000000000 <;> by_cases h4 : a ≥ -2000000000 <;> by_cases h5 : a ≤ 20000000000000 <;> simp [h1, h2, h3, h4, h5] <;> omega
theorem rmore_eq {e : Int} (h0 : 0 ≤ e) (h1 : e ≤ 40000000000000) : slotmeshref08_More.f (wrap64 e) = some (MO e) := by
  unfold slotmeshref08_More.f MO
  rw [w64 (x := e) (by omega), w64 (x := e * 51) (by omega), w64 (x := e * 51 + 999999) (by omega), Int.tdiv_eq_ediv_of_nonneg (by omega), w64 (x := (e * 51 + 999999) / 1000000) (by omega), w64 (by omega), Int.mul_comm]
theorem rgrow_eq (k : Nat) (l h a now : Int) : slotmeshref08_Grow.f (k + 1) l h a now = some (G l h a now) := by
  unfold slotmeshref08_Grow.f G
  rw [rvalid_eq]
  by_cases h1 : VP l h a
  · have h3 := h1
    unfold VP at h3
    by_cases h2 : now < a
    · rw [if_neg (show ¬ (VP l h a ∧ a ≤ now ∧ now ≤ 20000000000000) from fun hh => by omega)]
      simp [h1, h2, slotmeshref08_Grow.j0]
    · by_cases h4 : now > 20000000000000
      · rw [if_neg (show ¬ (VP l h a ∧ a ≤ now ∧ now ≤ 20000000000000) from fun hh => by omega)]
        simp [h1, h2, h4, slotmeshref08_Grow.j0]
      · rw [if_pos (show VP l h a ∧ a ≤ now ∧ now ≤ 20000000000000 from ⟨h1, by omega, by omega⟩)]
        have hm : 0 ≤ MO (now - a) ∧ MO (now - a) ≤ 3000000000 := by unfold MO; omega
        simp only [h1, decide_true, Option.bind_some, if_true, h2, if_false, h4, decide_false, slotmeshref08_Grow.j0, Bool.false_eq_true]
        rw [rmore_eq (by omega) (by omega)]
        simp only [Option.bind_some]
        rw [w64 (x := l - MO (now - a)) (by omega), w64 (x := h + MO (now - a)) (by omega), rvalid_eq]
        by_cases h5 : VP (l - MO (now - a)) (h + MO (now - a)) now <;> simp [h5]
  · rw [if_neg (show ¬ (VP l h a ∧ a ≤ now ∧ now ≤ 20000000000000) from fun hh => h1 hh.1)]
    simp [h1, slotmeshref08_Grow.j0]
theorem rmeet_eq (k : Nat) (a0 a1 a2 b0 b1 b2 : Int) : slotmeshref08_Meet.f (k + 1) a0 a1 a2 b0 b1 b2 = some (M a0 a1 a2 b0 b1 b2) := by
  unfold slotmeshref08_Meet.f M
  rw [rvalid_eq, rvalid_eq]
  by_cases h1 : VP a0 a1 a2
  · by_cases h2 : VP b0 b1 b2
    · rw [if_pos (show VP a0 a1 a2 ∧ VP b0 b1 b2 from ⟨h1, h2⟩)]
      simp only [decide_eq_true h1, decide_eq_true h2, Option.bind_some, if_true, rgrow_eq]
      have v1 := h1
      have v2 := h2
      unfold VP at v1 v2
      by_cases c1 : a2 = b2
      · subst c1
        have d1 : dl a2 a2 = MO (a2 - a2) := by unfold dl; rw [if_neg (by omega)]
        have d3 : mx a2 a2 = a2 := by unfold mx; split <;> rfl
        rw [d1, d3]
        have g : G a0 a1 a2 a2 = if VP (a0 - MO (a2 - a2)) (a1 + MO (a2 - a2)) a2 then (a0 - MO (a2 - a2), a1 + MO (a2 - a2), a2, 0) else (0, 0, 0, 3) := by unfold G; rw [if_pos ⟨h1, by omega, by omega⟩]
        have g2 : G b0 b1 a2 a2 = if VP (b0 - MO (a2 - a2)) (b1 + MO (a2 - a2)) a2 then (b0 - MO (a2 - a2), b1 + MO (a2 - a2), a2, 0) else (0, 0, 0, 3) := by unfold G; rw [if_pos ⟨h2, by omega, by omega⟩]
        rw [if_pos rfl, g, g2]
        by_cases p1 : VP (a0 - MO (a2 - a2)) (a1 + MO (a2 - a2)) a2
        · by_cases p2 : VP (b0 - MO (a2 - a2)) (b1 + MO (a2 - a2)) a2
          · rw [if_pos p1, if_pos p2, if_pos ⟨p1, p2⟩]
            simp only [Option.bind_some, slotmeshref08_Meet.fin, if_true]
            split <;> rfl
          · rw [if_pos p1, if_neg p2, if_neg (show ¬ (VP (a0 - MO (a2 - a2)) (a1 + MO (a2 - a2)) a2 ∧ VP (b0 - MO (a2 - a2)) (b1 + MO (a2 - a2)) a2) from fun hh => p2 hh.2)]
            simp [slotmeshref08_Meet.fin]
        · rw [if_neg p1, if_neg (show ¬ (VP (a0 - MO (a2 - a2)) (a1 + MO (a2 - a2)) a2 ∧ VP (b0 - MO (a2 - a2)) (b1 + MO (a2 - a2)) a2) from fun hh => p1 hh.1)]
          simp [slotmeshref08_Meet.fin]
      · by_cases c2 : a2 < b2
        · have d1 : dl a2 b2 = MO (b2 - a2) := by unfold dl; rw [if_neg (by omega)]
          have d2 : dl b2 a2 = 0 := by unfold dl; rw [if_pos (by omega)]
          have d3 : mx a2 b2 = b2 := by unfold mx; rw [if_pos c2]
          have h2' : VP (b0 - 0) (b1 + 0) b2 := by rw [Int.sub_zero, Int.add_zero]; exact h2
          have g : G a0 a1 a2 b2 = if VP (a0 - MO (b2 - a2)) (a1 + MO (b2 - a2)) b2 then (a0 - MO (b2 - a2), a1 + MO (b2 - a2), b2, 0) else (0, 0, 0, 3) := by unfold G; rw [if_pos ⟨h1, by omega, by omega⟩]
          rw [if_neg c1, if_pos c2, g, d1, d2, d3]
          by_cases p1 : VP (a0 - MO (b2 - a2)) (a1 + MO (b2 - a2)) b2
          · rw [if_pos p1, if_pos ⟨p1, h2'⟩, Int.sub_zero, Int.add_zero]
            simp only [Option.bind_some, slotmeshref08_Meet.fin, if_true]
            split <;> rfl
          · rw [if_neg p1, if_neg (fun hh => p1 hh.1)]
            simp [slotmeshref08_Meet.fin]
        · have d1 : dl a2 b2 = 0 := by unfold dl; rw [if_pos (by omega)]
          have d2 : dl b2 a2 = MO (a2 - b2) := by unfold dl; rw [if_neg (by omega)]
          have d3 : mx a2 b2 = a2 := by unfold mx; rw [if_neg c2]
          have h1' : VP (a0 - 0) (a1 + 0) a2 := by rw [Int.sub_zero, Int.add_zero]; exact h1
          have g : G b0 b1 b2 a2 = if VP (b0 - MO (a2 - b2)) (b1 + MO (a2 - b2)) a2 then (b0 - MO (a2 - b2), b1 + MO (a2 - b2), a2, 0) else (0, 0, 0, 3) := by unfold G; rw [if_pos ⟨h2, by omega, by omega⟩]
          rw [if_neg c1, if_neg c2, g, d1, d2, d3]
          by_cases p1 : VP (b0 - MO (a2 - b2)) (b1 + MO (a2 - b2)) a2
          · rw [if_pos p1, if_pos ⟨h1', p1⟩, Int.sub_zero, Int.add_zero]
            simp only [Option.bind_some, slotmeshref08_Meet.fin, if_true]
            split <;> rfl
          · rw [if_neg p1, if_neg (fun hh => p1 hh.2)]
            simp [slotmeshref08_Meet.fin]
    · rw [if_neg (show ¬ (VP a0 a1 a2 ∧ VP b0 b1 b2) from fun hh => h2 hh.2)]; simp [h1, h2]
  · rw [if_neg (show ¬ (VP a0 a1 a2 ∧ VP b0 b1 b2) from fun hh => h1 hh.1)]; simp [h1]
theorem rheard_eq (fr ho bnd asn loc : Int) : slotmeshref08_Heard.f fr ho bnd asn loc = some (HD bnd asn loc) := by
  unfold slotmeshref08_Heard.f slotmeshref08_Hint.f HD
  by_cases h1 : (0 ≤ asn ∧ asn ≤ 1000000000) ∧ (0 ≤ bnd ∧ bnd ≤ 2000) ∧ (-2000000000 ≤ loc ∧ loc ≤ 20000000000000)
  · rw [if_pos h1, if_pos (by omega), if_pos (by omega), if_pos (by omega), if_pos (by omega), if_pos (by omega), decide_eq_true (by omega)]
    simp only [Option.bind_some, if_true]
    rw [w64 (x := asn * 10000) (by omega), w64 (x := asn * 10000 - loc) (by omega), w64 (by omega), w64 (by omega)]
  · rw [if_neg h1]
    by_cases q1 : asn ≥ 0 <;> by_cases q2 : asn ≤ 1000000000 <;> by_cases q3 : bnd ≥ 0 <;> by_cases q4 : bnd ≤ 2000 <;> by_cases q5 : loc ≥ -2000000000 <;> simp [q1, q2, q3, q4, q5] <;> omega
theorem rwidth_eq (l h a : Int) : slotmeshref08_Width.f l h a = some (WD l h a) := by
  unfold slotmeshref08_Width.f WD
  rw [rvalid_eq]
  by_cases h1 : VP l h a
  · have h2 := h1
    unfold VP at h2
    simp only [h1, Option.bind_some, decide_true, if_true]
    rw [w64 (by omega)]
  · simp [h1]
end Go.Proofs.Ytjmpgefhdafmfaa.P
