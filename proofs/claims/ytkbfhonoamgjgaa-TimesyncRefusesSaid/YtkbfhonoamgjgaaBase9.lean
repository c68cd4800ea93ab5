/- Plain laws of the functions of package timesync. Conditions: none. -/
import Derived.Test.YtkbfhonoamgjgaaPx12
import Derived.Test.YtkbfhonoamgjgaaPx15
import Derived.Test.YtkbfhonoamgjgaaPx17
import Derived.Test.YtkbfhonoamgjgaaPx3
import Derived.Test.YtkbfhonoamgjgaaBase
namespace Go.Proofs.Ytkbfhonoamgjgaa.P
open Go.RowKit Go.Proofs.YtkbfhonoamgjgaaW.PrintWords Go.Proofs.YtkbfhonoamgjgaaW.PrintLast Go.Proofs.YtkbfhonoamgjgaaW.PrintMore
set_option linter.unusedVariables false
set_option linter.unusedSimpArgs false
/-- A valid state. -/
def SV (sy : Bool) (l h a ho so he : Int) : Prop := (-1 ≤ so ∧ so < 60 ∧ 0 ≤ he ∧ he ≤ 1000000000) ∧ (if sy = true then ho = 0 ∨ (1 ≤ ho ∧ ho ≤ 60 ∧ VP l h a) else ho = 60)
instance (sy : Bool) (l h a ho so he : Int) : Decidable (SV sy l h a ho so he) := by unfold SV; exact inferInstance
theorem svalid_eq (k : Nat) (sy : Bool) (l h a ho so he : Int) : timesync_state_valid.f (k + 6) sy l h a ho so he = some (decide (SV sy l h a ho so he)) := by
  have hj : ∀ b, timesync_state_valid.j0 (k + 6) b sy l h a ho so he = some (!b && decide (if sy = true then ho = 0 ∨ (1 ≤ ho ∧ ho ≤ 60 ∧ VP l h a) else ho = 60)) := by
    intro b
    rw [show k + 6 = (k + 5) + 1 from rfl]
    simp only [timesync_state_valid.j0, timesync_state_root.f, bound_Valid.f, valid_eq]
    cases b <;> cases sy <;> simp
    · by_cases h1 : ho = 60 <;> simp [h1]
    · by_cases h1 : ho = 0
      · simp [h1]
      · by_cases h2 : 1 ≤ ho <;> by_cases h3 : ho ≤ 60 <;> by_cases h4 : VP l h a <;> simp [h1, h2, h3, h4]
  unfold timesync_state_valid.f
  by_cases h1 : so < -1
  · rw [if_pos h1, hj, decide_eq_false (show ¬ SV sy l h a ho so he from fun hh => by have := hh.1; omega)]; rfl
  · by_cases h2 : so ≥ 60
    · rw [if_neg h1, if_pos h2, hj, decide_eq_false (show ¬ SV sy l h a ho so he from fun hh => by have := hh.1; omega)]; rfl
    · by_cases h3 : he < 0
      · rw [if_neg h1, if_neg h2, if_pos h3, hj, decide_eq_false (show ¬ SV sy l h a ho so he from fun hh => by have := hh.1; omega)]; rfl
      · rw [if_neg h1, if_neg h2, if_neg h3, hj]
        by_cases h4 : he > 1000000000
        · rw [decide_eq_false (show ¬ SV sy l h a ho so he from fun hh => by have := hh.1; omega), decide_eq_true h4]; rfl
        · have h5 : (-1 ≤ so ∧ so < 60 ∧ 0 ≤ he ∧ he ≤ 1000000000) := by omega
          unfold SV
          rw [decide_eq_false h4]
          simp [h5]
/-- Is a hint taken? -/
def TK (sy : Bool) (ho so fr hh : Int) : Prop := ¬ (sy = true ∧ ho = 0) ∧ (sy = false ∨ hh < ho ∨ fr = so)
instance (sy : Bool) (ho so fr hh : Int) : Decidable (TK sy ho so fr hh) := by unfold TK; exact inferInstance
theorem takes_eq (sy : Bool) (l h a ho so he fr hh bnd asn loc : Int) : timesync_state_takes.f sy l h a ho so he fr hh bnd asn loc = some (decide (TK sy ho so fr hh)) := by
  unfold timesync_state_takes.f timesync_state_root.f TK
  cases sy
  · simp
  · by_cases h1 : ho = 0
    · simp [h1]
    · by_cases h2 : hh < ho <;> by_cases h3 : fr = so <;> simp [h1, h2, h3]
abbrev T8 := Bool × Int × Int × Int × Int × Int × Int × Int
/-- What Hear answers. -/
def HE (sy : Bool) (l h a ho so he fr hh bnd asn loc : Int) : T8 :=
  if SV sy l h a ho so he ∧ (HD bnd asn loc).2.2.2 = 0 ∧ (0 ≤ fr ∧ fr < 60) ∧ (0 ≤ hh ∧ hh < 60) then
    (if TK sy ho so fr hh then
      (if sy = true then
        (if (M l h a (HD bnd asn loc).1 (HD bnd asn loc).2.1 (HD bnd asn loc).2.2.1).2.2.2 = 0 then (true, (M l h a (HD bnd asn loc).1 (HD bnd asn loc).2.1 (HD bnd asn loc).2.2.1).1, (M l h a (HD bnd asn loc).1 (HD bnd asn loc).2.1 (HD bnd asn loc).2.2.1).2.1, (M l h a (HD bnd asn loc).1 (HD bnd asn loc).2.1 (HD bnd asn loc).2.2.1).2.2.1, hh + 1, fr, asn, 0)
         else (sy, l, h, a, ho, so, he, (M l h a (HD bnd asn loc).1 (HD bnd asn loc).2.1 (HD bnd asn loc).2.2.1).2.2.2))
       else (true, (HD bnd asn loc).1, (HD bnd asn loc).2.1, (HD bnd asn loc).2.2.1, hh + 1, fr, asn, 0))
     else (sy, l, h, a, ho, so, he, 0))
  else (sy, l, h, a, ho, so, he, 1)
theorem HD_err (bnd asn loc : Int) : (HD bnd asn loc).2.2.2 = 0 ∨ (HD bnd asn loc).2.2.2 = 1 := by unfold HD; split <;> simp
theorem Hear_eq (k : Nat) (sy : Bool) (l h a ho so he fr hh bnd asn loc : Int) : timesync_Hear.f (k + 6) sy l h a ho so he fr hh bnd asn loc = some (HE sy l h a ho so he fr hh bnd asn loc) := by
  unfold timesync_Hear.f HE
  rw [Heard_eq, svalid_eq, takes_eq]
  simp only [Option.bind_some, Meet_eq]
  by_cases h1 : SV sy l h a ho so he
  · rw [decide_eq_true h1, if_pos rfl]
    rcases HD_err bnd asn loc with h2 | h2
    · rw [if_neg (by omega)]
      by_cases c1 : fr < 0
      · rw [if_pos c1, if_neg (by omega)]
      · by_cases c2 : fr ≥ 60
        · rw [if_neg c1, if_pos c2, if_neg (by omega)]
        · by_cases c3 : hh < 0
          · rw [if_neg c1, if_neg c2, if_pos c3, if_neg (by omega)]
          · by_cases c4 : hh ≥ 60
            · rw [if_neg c1, if_neg c2, if_neg c3, if_pos c4, if_neg (by omega)]
            · rw [if_neg c1, if_neg c2, if_neg c3, if_neg c4, if_pos (show SV sy l h a ho so he ∧ (HD bnd asn loc).2.2.2 = 0 ∧ (0 ≤ fr ∧ fr < 60) ∧ (0 ≤ hh ∧ hh < 60) from ⟨h1, h2, by omega, by omega⟩), w64 (x := hh + 1) (by omega)]
              by_cases c5 : TK sy ho so fr hh
              · rw [decide_eq_true c5, if_pos c5]
                simp only [if_true]
                by_cases c6 : sy = true
                · rw [if_pos c6, if_pos c6]; split <;> rfl
                · rw [if_neg c6, if_neg c6]
              · rw [decide_eq_false c5, if_neg c5]; rfl
    · rw [if_pos h2, if_neg (by omega)]
  · rw [decide_eq_false h1, if_neg (show ¬ (SV sy l h a ho so he ∧ (HD bnd asn loc).2.2.2 = 0 ∧ (0 ≤ fr ∧ fr < 60) ∧ (0 ≤ hh ∧ hh < 60)) from fun q => h1 q.1)]; rfl
/-- What Bound answers. -/
def BO (sy : Bool) (l h a ho so he now : Int) : Int × Int :=
  if SV sy l h a ho so he then
    (if sy = true then (if ho = 0 then (0, 0) else if (G l h a now).2.2.2 = 0 then (if ((G l h a now).2.1 - (G l h a now).1 + 1) / 2 > 2000 then (0, 16) else (((G l h a now).2.1 - (G l h a now).1 + 1) / 2, 0)) else (0, (G l h a now).2.2.2)) else (0, 16))
  else (0, 1)
theorem G_form (l h a now : Int) : (G l h a now = (l - MO (now - a), h + MO (now - a), now, 0) ∧ VP l h a ∧ a ≤ now ∧ now ≤ 20000000000000 ∧ VP (l - MO (now - a)) (h + MO (now - a)) now) ∨ (G l h a now = (0, 0, 0, 3)) ∨ (G l h a now = (0, 0, 0, 1) ∧ ¬ (VP l h a ∧ a ≤ now ∧ now ≤ 20000000000000)) := by
  unfold G
  split
  · rename_i h1
    split
    · rename_i h2; exact .inl ⟨rfl, h1.1, h1.2.1, h1.2.2, h2⟩
    · exact .inr (.inl rfl)
  · rename_i h1; exact .inr (.inr ⟨rfl, h1⟩)
theorem Bound_eq (k : Nat) (sy : Bool) (l h a ho so he now : Int) : timesync_Bound.f (k + 6) sy l h a ho so he now = some (BO sy l h a ho so he now) := by
  unfold timesync_Bound.f BO timesync_state_root.f
  rw [svalid_eq, Grow_eq]
  by_cases h1 : SV sy l h a ho so he
  · rw [decide_eq_true h1, if_pos h1]
    cases sy
    · simp
    · by_cases h2 : ho = 0
      · simp [h2]
      · simp only [Option.bind_some, if_true, h2, beq_iff_eq, if_false]
        rcases G_form l h a now with ⟨e, _, _, _, hv⟩ | e | ⟨e, _⟩
        · rw [e]
          simp only [if_true]
          rw [Width_eq]
          have hw : WD (l - MO (now - a)) (h + MO (now - a)) now = h + MO (now - a) - (l - MO (now - a)) := by unfold WD; rw [if_pos hv]
          unfold VP at hv
          rw [hw]
          simp only [Option.bind_some]
          have hd : 0 ≤ h + MO (now - a) - (l - MO (now - a)) ∧ h + MO (now - a) - (l - MO (now - a)) ≤ 40000000000000 := by omega
          generalize h + MO (now - a) - (l - MO (now - a)) = d at *
          rw [w64 (x := d + 1) (by omega), Int.tdiv_eq_ediv_of_nonneg (by omega), w64 (by omega)]
          split <;> rfl
        · rw [e]; simp
        · rw [e]; simp
  · rw [decide_eq_false h1, if_neg h1]; rfl
/-- What Tick answers. -/
def TI (sy : Bool) (l h a ho so he now : Int) : Bool × Int × Int × Int × Int × Int × Int :=
  if SV sy l h a ho so he ∧ sy = true ∧ (BO sy l h a ho so he now).2 ≠ 0 then (false, 0, 0, 0, 60, -1, 0) else (sy, l, h, a, ho, so, he)
theorem Tick_eq (k : Nat) (sy : Bool) (l h a ho so he now : Int) : timesync_Tick.f (k + 6) sy l h a ho so he now = some (TI sy l h a ho so he now) := by
  unfold timesync_Tick.f TI timesync_Start.f
  rw [Bound_eq, svalid_eq]
  cases sy
  · simp
  · by_cases h1 : SV true l h a ho so he
    · by_cases h2 : (BO true l h a ho so he now).2 = 0
      · simp [h1, h2]
      · simp [h1, h2]
    · simp [h1]
end Go.Proofs.Ytkbfhonoamgjgaa.P
