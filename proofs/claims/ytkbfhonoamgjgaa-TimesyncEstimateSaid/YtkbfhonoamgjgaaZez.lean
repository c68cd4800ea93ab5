/- A claim's own texts, laid together by wip/zip.py without what the claim does not use. Conditions: none. -/
import Derived.Test.YtkbfhonoamgjgaaZepx11
import Derived.Test.YtkbfhonoamgjgaaZepx13
import Derived.Test.YtkbfhonoamgjgaaZepx14
import Derived.Test.YtkbfhonoamgjgaaZepx5
import Derived.Test.YtkbfhonoamgjgaaZepx12
import Derived.Test.YtkbfhonoamgjgaaZepx15
import Derived.Test.YtkbfhonoamgjgaaZepx17
import Derived.Test.YtkbfhonoamgjgaaZepx3
import Derived.Test.YtkbfhonoamgjgaaZepx18
import Derived.Test.YtkbfhonoamgjgaaZepx0
import Derived.Test.YtkbfhonoamgjgaaZepx19
import Derived.Test.YtkbfhonoamgjgaaZepx28
import Derived.Test.YtkbfhonoamgjgaaZepx20
import Derived.Test.YtkbfhonoamgjgaaZepx23
import Derived.Test.YtkbfhonoamgjgaaZepx43
import Derived.Test.YtkbfhonoamgjgaaZepx44
import Derived.Test.YtkbfhonoamgjgaaZepx45
import Derived.Test.YtkbfhonoamgjgaaZepx47
import Derived.Test.YtkbfhonoamgjgaaRows
import Derived.Test.YtkbfhonoamgjgaaZeopen
import Derived.WalkKit
import Derived.ProofKit
import Derived.OpenShut
import Derived.ShutString
import Derived.ChangeOld
import Derived.Below
import Derived.SizedLaws
import Derived.Carry
section
/- Plain laws of what the printed functions compute. Conditions: none. -/
namespace Go.Proofs.Ytkbfhonoamgjgaa.P
open Go.RowKit Go.Proofs.YtkbfhonoamgjgaaW.PrintWords Go.Proofs.YtkbfhonoamgjgaaW.PrintLast Go.Proofs.YtkbfhonoamgjgaaW.PrintMore
set_option linter.unusedVariables false
set_option linter.unusedSimpArgs false
theorem w64 {x : Int} (h : -9223372036854775808 ≤ x ∧ x ≤ 9223372036854775807) : wrap64 x = x := by
  unfold wrap64
  omega
theorem asc3 (k : Nat) (a b c : Int) : bound_ascending.f (k + 4) [a, b, c] = some (decide (a ≤ b ∧ b ≤ c)) := by
  by_cases h1 : b < a <;> by_cases h2 : c < b <;> simp [bound_ascending.f, bound_ascending.l0, wrap64, rd, h1, h2] <;> omega
theorem asc4 (k : Nat) (a b c d : Int) : bound_ascending.f (k + 5) [a, b, c, d] = some (decide (a ≤ b ∧ b ≤ c ∧ c ≤ d)) := by
  by_cases h1 : b < a <;> by_cases h2 : c < b <;> by_cases h3 : d < c <;> simp [bound_ascending.f, bound_ascending.l0, wrap64, rd, h1, h2, h3] <;> omega
/-- A valid span. -/
def VP (l h a : Int) : Prop := -20000000000000 ≤ l ∧ l ≤ h ∧ h ≤ 20000000000000 ∧ -2000000000 ≤ a ∧ a ≤ 20000000000000
instance (l h a : Int) : Decidable (VP l h a) := by unfold VP; exact inferInstance
/-- By how much a span grows after e microseconds. -/
def MO (e : Int) : Int := (51 * e + 999999) / 1000000 + 1
theorem valid_eq (k : Nat) (l h a : Int) : bound_span_valid.f (k + 5) l h a = some (decide (VP l h a)) := by
  unfold bound_span_valid.f VP
  rw [asc4, asc3 (k + 1)]
  by_cases h1 : (-20000000000000 ≤ l ∧ l ≤ h ∧ h ≤ 20000000000000) <;> by_cases h2 : (-2000000000 ≤ a ∧ a ≤ 20000000000000) <;> simp [h1, h2] <;> omega
def G (l h a now : Int) : Int × Int × Int × Int :=
  if VP l h a ∧ a ≤ now ∧ now ≤ 20000000000000 then (if VP (l - MO (now - a)) (h + MO (now - a)) now then (l - MO (now - a), h + MO (now - a), now, 0) else (0, 0, 0, 3)) else (0, 0, 0, 1)
theorem more_eq {e : Int} (h0 : 0 ≤ e) (h1 : e ≤ 40000000000000) : wrap64 ((wrap64 (Int.tdiv (wrap64 ((wrap64 ((wrap64 (51 * (wrap64 e))) + 1000000)) - 1)) 1000000)) + 1) = MO e := by
  rw [w64 (x := e) (by omega), w64 (x := 51 * e) (by omega), w64 (x := 51 * e + 1000000) (by omega), w64 (x := 51 * e + 1000000 - 1) (by omega), Int.tdiv_eq_ediv_of_nonneg (by omega), w64 (x := (51 * e + 1000000 - 1) / 1000000) (by omega), w64 (by omega)]
  unfold MO
  omega
theorem grow_eq (k : Nat) (l h a now : Int) : bound_span_grow.f (k + 6) l h a now = some (G l h a now) := by
  unfold bound_span_grow.f G
  rw [show k + 6 = (k + 1) + 5 from rfl, valid_eq, show k + 1 + 5 = (k + 2) + 4 from rfl, asc3]
  by_cases h1 : VP l h a
  · by_cases h2 : a ≤ now ∧ now ≤ 20000000000000
    · have h3 := h1
      unfold VP at h3
      simp only [h1, h2, Option.bind_some, decide_true, if_true, and_self, Bool.not_true, bound_span_grow.j0, Bool.false_eq_true, if_false]
      rw [more_eq (by omega) (by omega)]
      have hm : 0 ≤ MO (now - a) ∧ MO (now - a) ≤ 3000000000 := by unfold MO; omega
      rw [w64 (x := l - MO (now - a)) (by omega), w64 (x := h + MO (now - a)) (by omega), show k + 5 = k + 5 from rfl, valid_eq]
      by_cases h4 : VP (l - MO (now - a)) (h + MO (now - a)) now <;> simp [h4]
    · simp [h1, h2, bound_span_grow.j0]
  · simp [h1, bound_span_grow.j0]
theorem Grow_eq (k : Nat) (l h a now : Int) : bound_Grow.f (k + 6) l h a now = some (G l h a now) := by
  unfold bound_Grow.f; rw [grow_eq]; rfl
/-- By how much a span at the time a grows when it meets one at the time b. -/
def dl (a b : Int) : Int := if b < a then 0 else MO (b - a)
def M (a0 a1 a2 b0 b1 b2 : Int) : Int × Int × Int × Int :=
  if VP a0 a1 a2 ∧ VP b0 b1 b2 then
    (if VP (a0 - dl a2 b2) (a1 + dl a2 b2) (mx a2 b2) ∧ VP (b0 - dl b2 a2) (b1 + dl b2 a2) (mx a2 b2) then
      (if mx (a0 - dl a2 b2) (b0 - dl b2 a2) > mn (a1 + dl a2 b2) (b1 + dl b2 a2) then (0, 0, 0, 16) else (mx (a0 - dl a2 b2) (b0 - dl b2 a2), mn (a1 + dl a2 b2) (b1 + dl b2 a2), mx a2 b2, 0))
     else (0, 0, 0, 3))
  else (0, 0, 0, 1)
def HD (bnd asn loc : Int) : Int × Int × Int × Int :=
  if (0 ≤ asn ∧ asn ≤ 1000000000) ∧ (0 ≤ bnd ∧ bnd ≤ 2000) ∧ (-2000000000 ≤ loc ∧ loc ≤ 20000000000000) then (asn * 10000 - loc - bnd, asn * 10000 - loc + bnd, loc, 0) else (0, 0, 0, 1)
def WD (l h a : Int) : Int := if VP l h a then h - l else -1
theorem Width_eq (k : Nat) (l h a : Int) : bound_Width.f (k + 6) l h a = some (WD l h a) := by
  unfold bound_Width.f bound_Valid.f WD
  rw [show k + 6 = (k + 1) + 5 from rfl, valid_eq]
  by_cases h1 : VP l h a
  · have h2 := h1
    unfold VP at h2
    simp only [h1, Option.bind_some, decide_true, if_true]
    rw [w64 (by omega)]
  · simp [h1]
end Go.Proofs.Ytkbfhonoamgjgaa.P
end
section
/- Plain laws of the functions of package timesync. Conditions: none. -/
namespace Go.Proofs.Ytkbfhonoamgjgaa.P
open Go.RowKit Go.Proofs.YtkbfhonoamgjgaaW.PrintWords Go.Proofs.YtkbfhonoamgjgaaW.PrintLast Go.Proofs.YtkbfhonoamgjgaaW.PrintMore
set_option linter.unusedVariables false
set_option linter.unusedSimpArgs false
/-- A valid state. -/
def SV (sy : Bool) (l h a ho so he : Int) : Prop := (-1 ≤ so ∧ so < 60 ∧ 0 ≤ he ∧ he ≤ 1000000000) ∧ (if sy = true then ho = 0 ∨ (1 ≤ ho ∧ ho ≤ 60 ∧ VP l h a) else ho = 60)
instance (sy : Bool) (l h a ho so he : Int) : Decidable (SV sy l h a ho so he) := by unfold SV; exact inferInstance
theorem svalid_eq (k : Nat) (sy : Bool) (l h a ho so he : Int) : timesync_state_valid.f (k + 6) sy l h a ho so he = some (decide (SV sy l h a ho so he)) := by
  have hj : ∀ b, timesync_state_valid.j0 (k + 6) b sy l h a ho so he = some (!b && decide (if sy = true then ho = 0 ∨ (1 ≤ ho ∧ ho ≤ 60 ∧ VP l h a) else ho = 60)) := by
    intro b
    rw [show k + 6 = (k + 5) + 1 from rfl]
    simp only [timesync_state_valid.j0, timesync_state_root.f, bound_Valid.f, valid_eq]
    cases b <;> cases sy <;> simp
    · by_cases h1 : ho = 60 <;> simp [h1]
    · by_cases h1 : ho = 0
      · simp [h1]
      · by_cases h2 : 1 ≤ ho <;> by_cases h3 : ho ≤ 60 <;> by_cases h4 : VP l h a <;> simp [h1, h2, h3, h4]
  unfold timesync_state_valid.f
  by_cases h1 : so < -1
  · rw [if_pos h1, hj, decide_eq_false (show ¬ SV sy l h a ho so he from fun hh => by have := hh.1; omega)]; rfl
  · by_cases h2 : so ≥ 60
    · rw [if_neg h1, if_pos h2, hj, decide_eq_false (show ¬ SV sy l h a ho so he from fun hh => by have := hh.1; omega)]; rfl
    · by_cases h3 : he < 0
      · rw [if_neg h1, if_neg h2, if_pos h3, hj, decide_eq_false (show ¬ SV sy l h a ho so he from fun hh => by have := hh.1; omega)]; rfl
      · rw [if_neg h1, if_neg h2, if_neg h3, hj]
        by_cases h4 : he > 1000000000
        · rw [decide_eq_false (show ¬ SV sy l h a ho so he from fun hh => by have := hh.1; omega), decide_eq_true h4]; rfl
        · have h5 : (-1 ≤ so ∧ so < 60 ∧ 0 ≤ he ∧ he ≤ 1000000000) := by omega
          unfold SV
          rw [decide_eq_false h4]
          simp [h5]
/-- Is a hint taken? -/
def TK (sy : Bool) (ho so fr hh : Int) : Prop := ¬ (sy = true ∧ ho = 0) ∧ (sy = false ∨ hh < ho ∨ fr = so)
instance (sy : Bool) (ho so fr hh : Int) : Decidable (TK sy ho so fr hh) := by unfold TK; exact inferInstance
abbrev T8 := Bool × Int × Int × Int × Int × Int × Int × Int
/-- What Bound answers. -/
def BO (sy : Bool) (l h a ho so he now : Int) : Int × Int :=
  if SV sy l h a ho so he then
    (if sy = true then (if ho = 0 then (0, 0) else if (G l h a now).2.2.2 = 0 then (if ((G l h a now).2.1 - (G l h a now).1 + 1) / 2 > 2000 then (0, 16) else (((G l h a now).2.1 - (G l h a now).1 + 1) / 2, 0)) else (0, (G l h a now).2.2.2)) else (0, 16))
  else (0, 1)
theorem G_form (l h a now : Int) : (G l h a now = (l - MO (now - a), h + MO (now - a), now, 0) ∧ VP l h a ∧ a ≤ now ∧ now ≤ 20000000000000 ∧ VP (l - MO (now - a)) (h + MO (now - a)) now) ∨ (G l h a now = (0, 0, 0, 3)) ∨ (G l h a now = (0, 0, 0, 1) ∧ ¬ (VP l h a ∧ a ≤ now ∧ now ≤ 20000000000000)) := by
  unfold G
  split
  · rename_i h1
    split
    · rename_i h2; exact .inl ⟨rfl, h1.1, h1.2.1, h1.2.2, h2⟩
    · exact .inr (.inl rfl)
  · rename_i h1; exact .inr (.inr ⟨rfl, h1⟩)
theorem Bound_eq (k : Nat) (sy : Bool) (l h a ho so he now : Int) : timesync_Bound.f (k + 6) sy l h a ho so he now = some (BO sy l h a ho so he now) := by
  unfold timesync_Bound.f BO timesync_state_root.f
  rw [svalid_eq, Grow_eq]
  by_cases h1 : SV sy l h a ho so he
  · rw [decide_eq_true h1, if_pos h1]
    cases sy
    · simp
    · by_cases h2 : ho = 0
      · simp [h2]
      · simp only [Option.bind_some, if_true, h2, beq_iff_eq, if_false]
        rcases G_form l h a now with ⟨e, _, _, _, hv⟩ | e | ⟨e, _⟩
        · rw [e]
          simp only [if_true]
          rw [Width_eq]
          have hw : WD (l - MO (now - a)) (h + MO (now - a)) now = h + MO (now - a) - (l - MO (now - a)) := by unfold WD; rw [if_pos hv]
          unfold VP at hv
          rw [hw]
          simp only [Option.bind_some]
          have hd : 0 ≤ h + MO (now - a) - (l - MO (now - a)) ∧ h + MO (now - a) - (l - MO (now - a)) ≤ 40000000000000 := by omega
          generalize h + MO (now - a) - (l - MO (now - a)) = d at *
          rw [w64 (x := d + 1) (by omega), Int.tdiv_eq_ediv_of_nonneg (by omega), w64 (by omega)]
          split <;> rfl
        · rw [e]; simp
        · rw [e]; simp
  · rw [decide_eq_false h1, if_neg h1]; rfl
end Go.Proofs.Ytkbfhonoamgjgaa.P
end
section
/- The examples of layer 9 hold, and the forms of what Hear answers. Conditions: none. -/
namespace Go.Proofs.Ytkbfhonoamgjgaa.P
open Go.RowKit Go.Proofs.YtkbfhonoamgjgaaW.PrintWords Go.Proofs.YtkbfhonoamgjgaaW.PrintLast Go.Proofs.YtkbfhonoamgjgaaW.PrintMore
set_option linter.unusedVariables false
set_option linter.unusedSimpArgs false
theorem head10 : slotmeshlaw09_head.f 10 = some true := by kernel_rfl
end Go.Proofs.Ytkbfhonoamgjgaa.P
end
section
/- Plain laws of the reference functions of layer 8. Conditions: none. -/
namespace Go.Proofs.Ytkbfhonoamgjgaa.P
open Go.RowKit Go.Proofs.YtkbfhonoamgjgaaW.PrintWords Go.Proofs.YtkbfhonoamgjgaaW.PrintLast Go.Proofs.YtkbfhonoamgjgaaW.PrintMore
set_option linter.unusedVariables false
set_option linter.unusedSimpArgs false
theorem rvalid_eq (l h a : Int) : slotmeshref08_Valid.f l h a = some (decide (VP l h a)) := by
  unfold slotmeshref08_Valid.f VP
  by_cases h1 : l ≥ -20000000000000 <;> by_cases h2 : l ≤ h <;> by_cases h3 : h ≤ 20000000000000 <;> by_cases h4 : a ≥ -2000000000 <;> by_cases h5 : a ≤ 20000000000000 <;> simp [h1, h2, h3, h4, h5] <;> omega
end Go.Proofs.Ytkbfhonoamgjgaa.P
end
section
/- Plain laws of the reference functions of layer 9. Conditions: none. -/
namespace Go.Proofs.Ytkbfhonoamgjgaa.P
open Go.RowKit Go.Proofs.YtkbfhonoamgjgaaW.PrintWords Go.Proofs.YtkbfhonoamgjgaaW.PrintLast Go.Proofs.YtkbfhonoamgjgaaW.PrintMore
set_option linter.unusedVariables false
set_option linter.unusedSimpArgs false
theorem rsvalid_eq (k : Nat) (sy : Bool) (l h a ho so he : Int) : slotmeshref09_Valid.f (k + 1) sy l h a ho so he = some (decide (SV sy l h a ho so he)) := by
  have hj : ∀ b, slotmeshref09_Valid.j0 (k + 1) b sy l h a ho so he = some (!b && decide (if sy = true then ho = 0 ∨ (1 ≤ ho ∧ ho ≤ 60 ∧ VP l h a) else ho = 60)) := by
    intro b
    simp only [slotmeshref09_Valid.j0, rvalid_eq]
    cases b <;> cases sy <;> simp
    · by_cases h1 : ho = 60 <;> simp [h1]
    · by_cases h1 : ho = 0
      · simp [h1]
      · by_cases h2 : 1 ≤ ho <;> by_cases h3 : ho ≤ 60 <;> by_cases h4 : VP l h a <;> simp [h1, h2, h3, h4]
  unfold slotmeshref09_Valid.f
  by_cases h1 : so < -1
  · rw [if_pos h1, hj, decide_eq_false (show ¬ SV sy l h a ho so he from fun hh => by have := hh.1; omega)]; rfl
  · by_cases h2 : so ≥ 60
    · rw [if_neg h1, if_pos h2, hj, decide_eq_false (show ¬ SV sy l h a ho so he from fun hh => by have := hh.1; omega)]; rfl
    · by_cases h3 : he < 0
      · rw [if_neg h1, if_neg h2, if_pos h3, hj, decide_eq_false (show ¬ SV sy l h a ho so he from fun hh => by have := hh.1; omega)]; rfl
      · rw [if_neg h1, if_neg h2, if_neg h3, hj]
        by_cases h4 : he > 1000000000
        · rw [decide_eq_false (show ¬ SV sy l h a ho so he from fun hh => by have := hh.1; omega), decide_eq_true h4]; rfl
        · have h5 : (-1 ≤ so ∧ so < 60 ∧ 0 ≤ he ∧ he ≤ 1000000000) := by omega
          unfold SV
          rw [decide_eq_false h4]
          simp [h5]
def HN (fr hh bnd asn loc : Int) : Prop := (HD bnd asn loc).2.2.2 = 0 ∧ (0 ≤ fr ∧ fr < 60) ∧ (0 ≤ hh ∧ hh < 60)
instance (fr hh bnd asn loc : Int) : Decidable (HN fr hh bnd asn loc) := by unfold HN; exact inferInstance
end Go.Proofs.Ytkbfhonoamgjgaa.P
end
section
/- Plain laws of what a clock shows. Conditions: none. -/
namespace Go.Proofs.Ytkbfhonoamgjgaa.P
open Go.RowKit Go.Proofs.YtkbfhonoamgjgaaW.PrintWords Go.Proofs.YtkbfhonoamgjgaaW.PrintLast Go.Proofs.YtkbfhonoamgjgaaW.PrintMore
set_option linter.unusedVariables false
set_option linter.unusedSimpArgs false
theorem mul_bd {d t : Int} (h1 : -50 ≤ d) (h2 : d ≤ 50) (ht : 0 ≤ t) : -50 * t ≤ d * t ∧ d * t ≤ 50 * t :=
  ⟨Int.mul_le_mul_of_nonneg_right h1 ht, Int.mul_le_mul_of_nonneg_right h2 ht⟩
theorem mul_df {d x y : Int} (h1 : -50 ≤ d) (h2 : d ≤ 50) (h : x ≤ y) : -50 * (y - x) ≤ d * y - d * x ∧ d * y - d * x ≤ 50 * (y - x) := by
  have := mul_bd h1 h2 (t := y - x) (by omega)
  rw [Int.mul_sub d] at this
  exact this
/-- What a clock shows. -/
def AT (off d t : Int) : Int := t + off + (d * t) / 1000000
def CV (off d : Int) : Prop := -1000000000 ≤ off ∧ off ≤ 1000000000 ∧ -50 ≤ d ∧ d ≤ 50
instance (off d : Int) : Decidable (CV off d) := by unfold CV; exact inferInstance
theorem floor_eq (p : Int) : (if Int.tmod p 1000000 < 0 then Int.tdiv p 1000000 - 1 else Int.tdiv p 1000000) = p / 1000000 := by
  by_cases h : 0 ≤ p
  · rw [Int.tmod_eq_emod_of_nonneg h, Int.tdiv_eq_ediv_of_nonneg h, if_neg (by omega)]
  · obtain ⟨q, rfl⟩ : ∃ q, p = -q := ⟨-p, by omega⟩
    rw [Int.neg_tmod, Int.neg_tdiv, Int.tmod_eq_emod_of_nonneg (by omega), Int.tdiv_eq_ediv_of_nonneg (by omega)]
    split <;> omega
theorem at_eq {off d t : Int} (hv : CV off d) (h0 : 0 ≤ t) (h1 : t ≤ 10000000000000) : clock_clock_at.f off d t = some (AT off d t) := by
  unfold CV at hv
  have hb := mul_bd hv.2.2.1 hv.2.2.2 h0
  have hf := floor_eq (d * t)
  unfold clock_clock_at.f AT
  rw [w64 (x := d * t) (by omega), w64 (x := t + off) (by omega)]
  generalize d * t = p at *
  by_cases h : Int.tmod p 1000000 < 0
  · rw [if_pos h] at hf ⊢
    rw [w64 (x := Int.tdiv p 1000000) (by omega), hf, w64 (x := p / 1000000) (by omega), w64 (by omega)]
  · rw [if_neg h] at hf ⊢
    rw [hf, w64 (x := p / 1000000) (by omega), w64 (by omega)]
theorem cvalid_eq (off d : Int) : clock_Valid.f off d = some (decide (CV off d)) := by
  unfold clock_Valid.f clock_in.f CV
  rw [w64 (x := -1000000000) (by omega), w64 (x := -50) (by omega)]
  by_cases h1 : off ≥ -1000000000 <;> by_cases h2 : off ≤ 1000000000 <;> by_cases h3 : d ≥ -50 <;> by_cases h4 : d ≤ 50 <;> simp [h1, h2, h3, h4] <;> omega
theorem Show_eq (off d t : Int) : clock_Show.f off d t = some (if CV off d ∧ 0 ≤ t ∧ t ≤ 10000000000000 then (AT off d t, 0) else (0, 1)) := by
  unfold clock_Show.f
  rw [cvalid_eq]
  by_cases h1 : CV off d
  · by_cases h2 : t < 0
    · rw [if_neg (show ¬ (CV off d ∧ 0 ≤ t ∧ t ≤ 10000000000000) from fun hh => by omega), decide_eq_true h1]
      simp only [Option.bind_some, if_true]
      rw [if_pos h2]
    · by_cases h3 : t > 10000000000000
      · rw [if_neg (show ¬ (CV off d ∧ 0 ≤ t ∧ t ≤ 10000000000000) from fun hh => by omega), decide_eq_true h1]
        simp only [Option.bind_some, if_true]
        rw [if_neg h2, if_pos h3]
      · rw [if_pos (show CV off d ∧ 0 ≤ t ∧ t ≤ 10000000000000 from ⟨h1, by omega, by omega⟩), decide_eq_true h1]
        simp only [Option.bind_some, if_true]
        rw [if_neg h2, if_neg h3, at_eq h1 (by omega) (by omega)]
        rfl
  · rw [if_neg (show ¬ (CV off d ∧ 0 ≤ t ∧ t ≤ 10000000000000) from fun hh => h1 hh.1), decide_eq_false h1]
    rfl
theorem True_eq (l h a t s : Int) (hb : -9000000000000000000 ≤ t - s ∧ t - s ≤ 9000000000000000000) : slotmeshref08_True.f l h a t s = some (decide (a = s ∧ l ≤ t - s ∧ t - s ≤ h)) := by
  unfold slotmeshref08_True.f
  rw [w64 (x := t - s) (by omega)]
  by_cases h1 : a = s <;> by_cases h2 : t - s ≥ l <;> by_cases h3 : t - s ≤ h <;> simp [h1, h2, h3] <;> omega
/-- What a clock shows lies near the true time, and runs with it. -/
theorem AT_near {off d t : Int} (hv : CV off d) (h0 : 0 ≤ t) (h1 : t ≤ 10000000000000) : -1500000001 ≤ AT off d t - t ∧ AT off d t - t ≤ 1500000001 ∧ -2000000000 ≤ AT off d t ∧ AT off d t ≤ 20000000000000 := by
  unfold CV at hv
  have hb := mul_bd hv.2.2.1 hv.2.2.2 h0
  unfold AT
  generalize d * t = p at *
  omega
theorem AT_mono {off d x y : Int} (hv : CV off d) (h : x ≤ y) : AT off d x ≤ AT off d y := by
  unfold CV at hv
  have hb := mul_df hv.2.2.1 hv.2.2.2 h
  unfold AT
  generalize d * x = p at *
  generalize d * y = q at *
  omega
/-- Growing keeps a span true. -/
theorem AT_grow {off d x y : Int} (hv : CV off d) (h : x ≤ y) : -(MO (AT off d y - AT off d x)) ≤ (y - AT off d y) - (x - AT off d x) ∧ (y - AT off d y) - (x - AT off d x) ≤ MO (AT off d y - AT off d x) := by
  unfold CV at hv
  have hb := mul_df hv.2.2.1 hv.2.2.2 h
  unfold AT MO
  generalize d * x = p at *
  generalize d * y = q at *
  omega
end Go.Proofs.Ytkbfhonoamgjgaa.P
end
section
/- When a state is true for a clock. Conditions: none. -/
namespace Go.Proofs.Ytkbfhonoamgjgaa.P
open Go.RowKit Go.Proofs.YtkbfhonoamgjgaaW.PrintWords Go.Proofs.YtkbfhonoamgjgaaW.PrintLast Go.Proofs.YtkbfhonoamgjgaaW.PrintMore
set_option linter.unusedVariables false
set_option linter.unusedSimpArgs false
theorem holds_eq (sy : Bool) (l h a ho so he off d t : Int) (ht : -9000000000000000000 ≤ t ∧ t ≤ 9000000000000000000) : slotmeshlaw09_holds.f sy l h a ho so he off d t = some (decide ((CV off d ∧ 0 ≤ t ∧ t ≤ 10000000000000) ∧ a = AT off d t ∧ l ≤ t - AT off d t ∧ t - AT off d t ≤ h)) := by
  unfold slotmeshlaw09_holds.f
  rw [Show_eq]
  by_cases h1 : CV off d ∧ 0 ≤ t ∧ t ≤ 10000000000000
  · have hn := AT_near h1.1 h1.2.1 h1.2.2
    rw [if_pos h1]
    simp only [Option.bind_some, if_true]
    rw [True_eq _ _ _ _ _ (by omega)]
    simp [h1]
  · rw [if_neg h1]
    simp [h1]
end Go.Proofs.Ytkbfhonoamgjgaa.P
end
section
/- The pure statement of TimesyncEstimate. Conditions: none. -/
namespace Go.Proofs.Ytkbfhonoamgjgaa.P
open Go.RowKit Go.Proofs.YtkbfhonoamgjgaaW.PrintWords Go.Proofs.YtkbfhonoamgjgaaW.PrintLast Go.Proofs.YtkbfhonoamgjgaaW.PrintMore
set_option linter.unusedVariables false
set_option linter.unusedSimpArgs false
theorem mid_eq {s : Int} (hb : -100000000000000 ≤ s ∧ s ≤ 100000000000000) : (s < 0 → wrap64 (Int.tdiv (wrap64 (s - 1)) 2) = s / 2) ∧ (0 ≤ s → wrap64 (Int.tdiv s 2) = s / 2) := by
  constructor
  · intro h
    rw [w64 (x := s - 1) (by omega)]
    obtain ⟨q, hq⟩ : ∃ q, s - 1 = -q := ⟨1 - s, by omega⟩
    rw [hq, Int.neg_tdiv, Int.tdiv_eq_ediv_of_nonneg (by omega), w64 (by omega)]
    omega
  · intro h
    rw [Int.tdiv_eq_ediv_of_nonneg h, w64 (by omega)]
theorem TimesyncEstimate_pure : ∀ (a0_0 : Bool) (a0_1 : Int) (a0_2 : Int) (a0_3 : Int) (a0_4 : Int) (a0_5 : Int) (a0_6 : Int) (a1_0 : Int) (a1_1 : Int) (a2 : Int) (a3 : Int), (Lit.int .i64 a0_1).wf = true → (Lit.int .i64 a0_2).wf = true → (Lit.int .i64 a0_3).wf = true → (Lit.int .i64 a0_4).wf = true → (Lit.int .i64 a0_5).wf = true → (Lit.int .i64 a0_6).wf = true → (Lit.int .i64 a1_0).wf = true → (Lit.int .i64 a1_1).wf = true → (Lit.int .i64 a2).wf = true → (Lit.int .i64 a3).wf = true → ∃ k, slotmeshlaw09_TimesyncEstimate.f k a0_0 a0_1 a0_2 a0_3 a0_4 a0_5 a0_6 a1_0 a1_1 a2 a3 = some true := by
  intro sy l h a ho so he off d t later w1 w2 w3 w4 w5 w6 w7 w8 w9 w10
  refine ⟨10, ?_⟩
  unfold slotmeshlaw09_TimesyncEstimate.f
  rw [head10]
  simp only [Option.bind_some]
  have stop : ∀ x, slotmeshlaw09_TimesyncEstimate.j0 10 t later true true sy l h a ho so he off d = x → x = some true := by
    intro x e; rw [← e, show (10 : Nat) = 9 + 1 from rfl]; simp [slotmeshlaw09_TimesyncEstimate.j0]
  by_cases g1 : later < 0
  · rw [if_pos g1]; exact stop _ rfl
  by_cases g2 : t < 0
  · rw [if_neg g1, if_pos g2]; exact stop _ rfl
  by_cases g3 : t > 10000000000000
  · rw [if_neg g1, if_neg g2, if_pos g3]; exact stop _ rfl
  rw [if_neg g1, if_neg g2, if_neg g3, w64 (x := 10000000000000 - t) (by omega)]
  by_cases g4 : later > 10000000000000 - t
  · rw [if_pos g4]; exact stop _ rfl
  rw [if_neg g4, show (10 : Nat) = 9 + 1 from rfl, rsvalid_eq, show 9 + 1 = (10 : Nat) from rfl]
  simp only [Option.bind_some, slotmeshref09_Root.f]
  by_cases g5 : SV sy l h a ho so he
  rotate_left
  · rw [decide_eq_false g5, if_neg (by decide)]; exact stop _ rfl
  rw [decide_eq_true g5, if_pos rfl]
  cases sy
  · rw [if_neg (by decide)]; exact stop _ rfl
  rw [if_pos rfl, if_pos rfl]
  simp only [Option.bind_some, beq_iff_eq]
  by_cases g6 : ho = 0
  · rw [if_pos g6]; exact stop _ rfl
  rw [if_neg g6, holds_eq _ _ _ _ _ _ _ _ _ _ (by omega)]
  simp only [Option.bind_some]
  by_cases g7 : (CV off d ∧ 0 ≤ t ∧ t ≤ 10000000000000) ∧ a = AT off d t ∧ l ≤ t - AT off d t ∧ t - AT off d t ≤ h
  rotate_left
  · rw [decide_eq_false g7]; exact stop _ rfl
  rw [decide_eq_true g7]
  obtain ⟨⟨hv, _, _⟩, ha, t1, t2⟩ := g7
  have hvp : VP l h a := by
    unfold SV at g5
    rw [if_pos rfl] at g5
    rcases g5.2 with q | q
    · exact absurd q g6
    · exact q.2.2
  have n1 := AT_near hv (show 0 ≤ t by omega) (by omega)
  have n2 := AT_near hv (show 0 ≤ t + later by omega) (by omega)
  have n3 := AT_mono hv (show t ≤ t + later by omega)
  have n4 := AT_grow hv (show t ≤ t + later by omega)
  rw [show (10 : Nat) = 9 + 1 from rfl]
  simp only [slotmeshlaw09_TimesyncEstimate.j0, Bool.not_true, Bool.false_eq_true, if_false]
  rw [w64 (x := t + later) (by omega), Show_eq, if_pos ⟨hv, by omega, by omega⟩]
  simp only [Option.bind_some, if_true]
  rw [show (9 : Nat) = 3 + 6 from rfl, Bound_eq, Grow_eq]
  simp only [Option.bind_some]
  have hb : BO true l h a ho so he (AT off d (t + later)) = if (G l h a (AT off d (t + later))).2.2.2 = 0 then (if ((G l h a (AT off d (t + later))).2.1 - (G l h a (AT off d (t + later))).1 + 1) / 2 > 2000 then (0, 16) else (((G l h a (AT off d (t + later))).2.1 - (G l h a (AT off d (t + later))).1 + 1) / 2, 0)) else (0, (G l h a (AT off d (t + later))).2.2.2) := by
    unfold BO; rw [if_pos g5, if_pos rfl, if_neg g6]
  rw [hb]
  subst ha
  generalize AT off d t = p at *
  generalize AT off d (t + later) = q at *
  rw [show (3 + 6 : Nat) = 8 + 1 from rfl]
  rcases G_form l h p q with ⟨e, _, _, _, hv2⟩ | e | ⟨e, hn⟩
  · rw [e]
    unfold VP at hv2
    by_cases c : (h + MO (q - p) - (l - MO (q - p)) + 1) / 2 > 2000
    · simp only [if_true, if_pos c, show ¬ ((16 : Int) = 0) from by decide, if_false, slotmeshlaw09_TimesyncEstimate.j1]
      rfl
    · simp only [if_true, if_neg c, slotmeshlaw09_TimesyncEstimate.j1, bne_self_eq_false, Bool.false_eq_true, if_false]
      generalize MO (q - p) = m at *
      have hm := mid_eq (s := l - m + (h + m)) (by omega)
      rw [w64 (x := l - m + (h + m)) (by omega), w64 (x := t + later) (by omega)]
      by_cases c2 : l - m + (h + m) < 0
      · rw [if_pos c2, hm.1 c2, w64 (x := q + (l - m + (h + m)) / 2) (by omega), w64 (x := t + later - (q + (l - m + (h + m)) / 2)) (by omega), if_pos (by omega), w64 (x := q + (l - m + (h + m)) / 2 - t) (by omega), w64 (by omega), decide_eq_true (by omega)]
      · rw [if_neg c2, hm.2 (by omega), w64 (x := q + (l - m + (h + m)) / 2) (by omega), w64 (x := t + later - (q + (l - m + (h + m)) / 2)) (by omega), if_pos (by omega), w64 (x := q + (l - m + (h + m)) / 2 - t) (by omega), w64 (by omega), decide_eq_true (by omega)]
  · rw [e]
    simp only [show ¬ ((3 : Int) = 0) from by decide, if_false, slotmeshlaw09_TimesyncEstimate.j1, if_true]
  · exact absurd ⟨hvp, n3, by omega⟩ hn
end Go.Proofs.Ytkbfhonoamgjgaa.P
end
section
/- The call of TimesyncEstimate answers true, out of its pure statement. Conditions: none. -/
namespace Go.Proofs.Ytkbfhonoamgjgaa.P
open Go.RowKit
theorem TimesyncEstimate_walk (a0_0 : Bool) (a0_1 : Int) (a0_2 : Int) (a0_3 : Int) (a0_4 : Int) (a0_5 : Int) (a0_6 : Int) (a1_0 : Int) (a1_1 : Int) (a2 : Int) (a3 : Int) (w : World) (w0_1 : (Lit.int .i64 a0_1).wf = true) (w0_2 : (Lit.int .i64 a0_2).wf = true) (w0_3 : (Lit.int .i64 a0_3).wf = true) (w0_4 : (Lit.int .i64 a0_4).wf = true) (w0_5 : (Lit.int .i64 a0_5).wf = true) (w0_6 : (Lit.int .i64 a0_6).wf = true) (w1_0 : (Lit.int .i64 a1_0).wf = true) (w1_1 : (Lit.int .i64 a1_1).wf = true) (w2 : (Lit.int .i64 a2).wf = true) (w3 : (Lit.int .i64 a3).wf = true) :
    Calls Try.prog 10 #[.agg #[.bool a0_0, .int .i64 a0_1, .int .i64 a0_2, .int .i64 a0_3, .int .i64 a0_4, .int .i64 a0_5, .int .i64 a0_6], .agg #[.int .i64 a1_0, .int .i64 a1_1], .int .i64 a2, .int .i64 a3] w fun e w' => e = .returned (.bool true) ∧ Below w.heap.size w w' := by
  obtain ⟨k, h⟩ := TimesyncEstimate_pure a0_0 a0_1 a0_2 a0_3 a0_4 a0_5 a0_6 a1_0 a1_1 a2 a3 w0_1 w0_2 w0_3 w0_4 w0_5 w0_6 w1_0 w1_1 w2 w3
  refine (slotmeshlaw09_TimesyncEstimate.calls k a0_0 a0_1 a0_2 a0_3 a0_4 a0_5 a0_6 a1_0 a1_1 a2 a3 true w h).mono ?_
  rintro e w' ⟨rfl, hd⟩
  exact ⟨rfl, hd⟩
end Go.Proofs.Ytkbfhonoamgjgaa.P
end
section
/- The given statement of TimesyncEstimate: for every input it answers true, and the input reads as before. Conditions: none. -/
namespace Go.Proofs.Ytkbfhonoamgjgaa.timesyncEstimate
open Go.ChangeShapes Go.WideShapes Go.ChangeAt Go.RowKit
set_option linter.unusedVariables false
set_option maxRecDepth 100000
theorem own : ownKnob Try.prog.godebug = none := by kernel_rfl
theorem laidOut : laidOutB Try.prog = true := by kernel_rfl
set_option maxRecDepth 100000 in
theorem lifted (os : Os) (started : os.Started) (H : Type) (enc : TypeId × Value → H) :
    ReturnsInHanded {} Try.checked os 10 .any (Rows.timesyncEstimateSpec.pre6 enc Try.prog Try.f10 Rows.timesyncEstimateRow.domain false) (Rows.timesyncEstimateSpec.post enc Try.prog Try.f10 false true false false) := by
  refine returnsInHanded_of_change_sized (C := Try.checked) own started (by kernel_rfl) Try.func10
    (ChangeSpec.witness6 (enc := enc) (C := Try.checked) false ⟨#[], #[.agg #[.bool false, .int .i64 0, .int .i64 0, .int .i64 0, .int .i64 0, .int .i64 0, .int .i64 0], .agg #[.int .i64 0, .int .i64 0], .int .i64 0, .int .i64 0], []⟩ 8 (by kernel_rfl) (by kernel_rfl) (by kernel_rfl) (by kernel_rfl)) ?_
  intro W base args ds gs before hval0 hW hcnd hsz0 _
  have hval : ∀ (j : Nat) t v, Try.f10.params[j]? = some t → args[j]? = some v → Value.okWide Try.prog W .any base t v := hval0
  have hW' := hW
  obtain ⟨p, q, hA0, hV, rfl, hfz, hnd⟩ := hW
  have hA : DataW.TrodAll enc Try.prog W 0 (fun _ => true) true Try.f10.params.toList args.toList ds p := hA0
  rw [Try.params10] at hA hval
  obtain ⟨v0, vs0, d0, ds0, p0, q0, hargs, rfl, rfl, h0, r0⟩ := trodAll_cons hA
  obtain ⟨v1, vs1, d1, ds1, p1, q1, rfl, rfl, rfl, h1, r1⟩ := trodAll_cons r0
  obtain ⟨v2, vs2, d2, ds2, p2, q2, rfl, rfl, rfl, h2, r2⟩ := trodAll_cons r1
  obtain ⟨v3, vs3, d3, ds3, p3, q3, rfl, rfl, rfl, h3, r3⟩ := trodAll_cons r2
  obtain ⟨rfl, rfl, rfl⟩ := trodAll_nil r3
  obtain rfl : args = #[v0, v1, v2, v3] := by cases args; simp_all
  obtain ⟨rfl, rfl⟩ := trodVars_none hV
  have lt0 : ∀ x ∈ p0, x.block < W.heap.size := by obtain ⟨m, hm⟩ := h0; exact DataW.trod_lt m _ _ _ hm
  obtain ⟨a0_0, a0_1, a0_2, a0_3, a0_4, a0_5, a0_6, rfl, w0_1, w0_2, w0_3, w0_4, w0_5, w0_6⟩ := open25 (hval 0 25 v0 rfl rfl) h0
  have lt1 : ∀ x ∈ p1, x.block < W.heap.size := by obtain ⟨m, hm⟩ := h1; exact DataW.trod_lt m _ _ _ hm
  obtain ⟨a1_0, a1_1, rfl, w1_0, w1_1⟩ := open47 (hval 1 47 v1 rfl rfl) h1
  obtain ⟨a2, rfl, rfl, rfl, w2⟩ := open_int Try.underlying3 (hval 2 3 v2 rfl rfl) h2
  obtain ⟨a3, rfl, rfl, rfl, w3⟩ := open_int Try.underlying3 (hval 3 3 v3 rfl rfl) h3
  clear hA0 hval0 hsz0
  refine (P.TimesyncEstimate_walk a0_0 a0_1 a0_2 a0_3 a0_4 a0_5 a0_6 a1_0 a1_1 a2 a3 W w0_1 w0_2 w0_3 w0_4 w0_5 w0_6 w1_0 w1_1 w2 w3).mono fun e W' ⟨he, bel⟩ => ?_
  subst he
  exact ⟨_, rfl, _, _, _, [], _, [], hW', trodAll_mk1 (shut_bool Try.underlying4 _), (trodAll_cons_mk (Below.trod laidOut (by kernel_rfl) (of_decide_eq_true (by kernel_rfl)) h0 bel lt0) (trodAll_cons_mk (Below.trod laidOut (by kernel_rfl) (of_decide_eq_true (by kernel_rfl)) h1 bel lt1) (trodAll_cons_mk (shut_int Try.underlying3 w2) (trodAll_cons_mk (shut_int Try.underlying3 w3) trodAll_mk0)))), rfl, bel.frame _, fun h => by cases h⟩
theorem over : Rows.timesyncEstimateRow.holds Try.pinned (OpenSpec.ofChange Rows.timesyncEstimateSpec) :=
  OpenClaim.holds_of_wide 10 Try.f10 rfl rfl rfl rfl rfl rfl rfl ⟨rfl, rfl, rfl, rfl, rfl⟩ rfl rfl rfl rfl rfl (by kernel_rfl) Try.func10 (by kernel_rfl)
    (of_decide_eq_true (by kernel_rfl)) (by unfold Func.isWrapper; first | (rw [if_pos (by decide +kernel)]; kernel_rfl) | (rw [if_neg (by decide +kernel)]; exact ⟨rfl, rfl⟩))
    (fun os started H enc _ => lifted os started H enc)
theorem proved : Rows.TimesyncEstimateSaid := over
end Go.Proofs.Ytkbfhonoamgjgaa.timesyncEstimate
namespace Go.Proofs.Ytkbfhonoamgjgaa
theorem timesyncEstimate_holds : Rows.TimesyncEstimateSaid := timesyncEstimate.proved
#print axioms timesyncEstimate_holds
end Go.Proofs.Ytkbfhonoamgjgaa
end
