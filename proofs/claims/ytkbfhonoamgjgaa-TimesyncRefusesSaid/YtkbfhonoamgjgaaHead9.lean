/- The examples of layer 9 hold, and the forms of what Hear answers. Conditions: none. -/
import Derived.Test.YtkbfhonoamgjgaaPx18
import Derived.Test.YtkbfhonoamgjgaaBase9
namespace Go.Proofs.Ytkbfhonoamgjgaa.P
open Go.RowKit Go.Proofs.YtkbfhonoamgjgaaW.PrintWords Go.Proofs.YtkbfhonoamgjgaaW.PrintLast Go.Proofs.YtkbfhonoamgjgaaW.PrintMore
set_option linter.unusedVariables false
set_option linter.unusedSimpArgs false
theorem head9 : slotmeshlaw09_head.f 8 = some true := by kernel_rfl
theorem head10 : slotmeshlaw09_head.f 10 = some true := by kernel_rfl
/-- Hear's answer: unchanged, or taken. -/
theorem HE_form (sy : Bool) (l h a ho so he fr hh bnd asn loc : Int) :
    (∃ e, HE sy l h a ho so he fr hh bnd asn loc = (sy, l, h, a, ho, so, he, e))
    ∨ (SV sy l h a ho so he ∧ (HD bnd asn loc).2.2.2 = 0 ∧ (0 ≤ fr ∧ fr < 60) ∧ (0 ≤ hh ∧ hh < 60) ∧ TK sy ho so fr hh ∧
        ((sy = false ∧ HE sy l h a ho so he fr hh bnd asn loc = (true, (HD bnd asn loc).1, (HD bnd asn loc).2.1, (HD bnd asn loc).2.2.1, hh + 1, fr, asn, 0)) ∨
         (sy = true ∧ (M l h a (HD bnd asn loc).1 (HD bnd asn loc).2.1 (HD bnd asn loc).2.2.1).2.2.2 = 0 ∧ HE sy l h a ho so he fr hh bnd asn loc = (true, (M l h a (HD bnd asn loc).1 (HD bnd asn loc).2.1 (HD bnd asn loc).2.2.1).1, (M l h a (HD bnd asn loc).1 (HD bnd asn loc).2.1 (HD bnd asn loc).2.2.1).2.1, (M l h a (HD bnd asn loc).1 (HD bnd asn loc).2.1 (HD bnd asn loc).2.2.1).2.2.1, hh + 1, fr, asn, 0)))) := by
  unfold HE
  by_cases c1 : SV sy l h a ho so he ∧ (HD bnd asn loc).2.2.2 = 0 ∧ (0 ≤ fr ∧ fr < 60) ∧ (0 ≤ hh ∧ hh < 60)
  · rw [if_pos c1]
    by_cases c2 : TK sy ho so fr hh
    · rw [if_pos c2]
      cases sy
      · rw [if_neg (by decide)]
        exact .inr ⟨c1.1, c1.2.1, c1.2.2.1, c1.2.2.2, c2, .inl ⟨rfl, rfl⟩⟩
      · rw [if_pos rfl]
        by_cases c3 : (M l h a (HD bnd asn loc).1 (HD bnd asn loc).2.1 (HD bnd asn loc).2.2.1).2.2.2 = 0
        · rw [if_pos c3]
          exact .inr ⟨c1.1, c1.2.1, c1.2.2.1, c1.2.2.2, c2, .inr ⟨rfl, c3, rfl⟩⟩
        · rw [if_neg c3]; exact .inl ⟨_, rfl⟩
    · rw [if_neg c2]; exact .inl ⟨_, rfl⟩
  · rw [if_neg c1]; exact .inl ⟨_, rfl⟩
end Go.Proofs.Ytkbfhonoamgjgaa.P
