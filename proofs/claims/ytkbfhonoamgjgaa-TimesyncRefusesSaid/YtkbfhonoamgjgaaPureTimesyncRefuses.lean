/- The pure statement of TimesyncRefuses. Conditions: none. -/
import Derived.Test.YtkbfhonoamgjgaaPx36
import Derived.Test.YtkbfhonoamgjgaaBase9
import Derived.Test.YtkbfhonoamgjgaaHead9
namespace Go.Proofs.Ytkbfhonoamgjgaa.P
open Go.RowKit Go.Proofs.YtkbfhonoamgjgaaW.PrintWords Go.Proofs.YtkbfhonoamgjgaaW.PrintLast Go.Proofs.YtkbfhonoamgjgaaW.PrintMore
set_option linter.unusedVariables false
set_option linter.unusedSimpArgs false
theorem TimesyncRefuses_pure : ∀ (a0_0 : Bool) (a0_1 : Int) (a0_2 : Int) (a0_3 : Int) (a0_4 : Int) (a0_5 : Int) (a0_6 : Int) (a1_0 : Int) (a1_1 : Int) (a1_2 : Int) (a1_3 : Int) (a1_4 : Int), (Lit.int .i64 a0_1).wf = true → (Lit.int .i64 a0_2).wf = true → (Lit.int .i64 a0_3).wf = true → (Lit.int .i64 a0_4).wf = true → (Lit.int .i64 a0_5).wf = true → (Lit.int .i64 a0_6).wf = true → (Lit.int .i64 a1_0).wf = true → (Lit.int .i64 a1_1).wf = true → (Lit.int .i64 a1_2).wf = true → (Lit.int .i64 a1_3).wf = true → (Lit.int .i64 a1_4).wf = true → ∃ k, slotmeshlaw09_TimesyncRefuses.f k a0_0 a0_1 a0_2 a0_3 a0_4 a0_5 a0_6 a1_0 a1_1 a1_2 a1_3 a1_4 = some true := by
  intro sy l h a ho so he fr hh bnd asn loc _ _ _ _ _ _ _ _ _ _ _
  refine ⟨8, ?_⟩
  unfold slotmeshlaw09_TimesyncRefuses.f
  rw [head9, show (8 : Nat) = 2 + 6 from rfl, Hear_eq]
  simp only [Option.bind_some]
  rcases HE_form sy l h a ho so he fr hh bnd asn loc with ⟨e, he'⟩ | ⟨_, _, c3, c4, c5, hx⟩
  · rw [he']; simp
  · have e : (HE sy l h a ho so he fr hh bnd asn loc).2.2.2.2.2.2.2 = 0 := by rcases hx with ⟨_, e⟩ | ⟨_, _, e⟩ <;> rw [e]
    rw [e]
    unfold TK at c5
    cases sy
    · simp
    · simp only [if_true]
      have h1 : ¬ ho = 0 := fun q => c5.1 ⟨rfl, q⟩
      rcases c5.2 with q | q | q
      · cases q
      · rw [if_neg (by omega), if_neg h1]
      · by_cases h2 : hh ≥ ho
        · rw [if_pos h2, if_pos q, if_neg h1]
        · rw [if_neg h2, if_neg h1]
end Go.Proofs.Ytkbfhonoamgjgaa.P
