/- A claim's own texts, laid together by wip/zip.py without what the claim does not use. Conditions: none. -/
import Derived.Test.YtkbfhonoamgjgaaZfpx11
import Derived.Test.YtkbfhonoamgjgaaZfpx13
import Derived.Test.YtkbfhonoamgjgaaZfpx14
import Derived.Test.YtkbfhonoamgjgaaZfpx5
import Derived.Test.YtkbfhonoamgjgaaZfpx12
import Derived.Test.YtkbfhonoamgjgaaZfpx15
import Derived.Test.YtkbfhonoamgjgaaZfpx17
import Derived.Test.YtkbfhonoamgjgaaZfpx3
import Derived.Test.YtkbfhonoamgjgaaZfpx18
import Derived.Test.YtkbfhonoamgjgaaZfpx19
import Derived.Test.YtkbfhonoamgjgaaZfpx0
import Derived.Test.YtkbfhonoamgjgaaZfpx20
import Derived.Test.YtkbfhonoamgjgaaZfpx38
import Derived.Test.YtkbfhonoamgjgaaRows
import Derived.Test.YtkbfhonoamgjgaaZfopen
import Derived.WalkKit
import Derived.ProofKit
import Derived.OpenShut
import Derived.ShutString
import Derived.ChangeOld
import Derived.Below
import Derived.SizedLaws
import Derived.Carry
section
/- Plain laws of what the printed functions compute. Conditions: none. -/
namespace Go.Proofs.Ytkbfhonoamgjgaa.P
open Go.RowKit Go.Proofs.YtkbfhonoamgjgaaW.PrintWords Go.Proofs.YtkbfhonoamgjgaaW.PrintLast Go.Proofs.YtkbfhonoamgjgaaW.PrintMore
set_option linter.unusedVariables false
set_option linter.unusedSimpArgs false
theorem w64 {x : Int} (h : -9223372036854775808 ≤ x ∧ x ≤ 9223372036854775807) : wrap64 x = x := by
  unfold wrap64
  omega
theorem asc3 (k : Nat) (a b c : Int) : bound_ascending.f (k + 4) [a, b, c] = some (decide (a ≤ b ∧ b ≤ c)) := by
  by_cases h1 : b < a <;> by_cases h2 : c < b <;> simp [bound_ascending.f, bound_ascending.l0, wrap64, rd, h1, h2] <;> omega
theorem asc4 (k : Nat) (a b c d : Int) : bound_ascending.f (k + 5) [a, b, c, d] = some (decide (a ≤ b ∧ b ≤ c ∧ c ≤ d)) := by
  by_cases h1 : b < a <;> by_cases h2 : c < b <;> by_cases h3 : d < c <;> simp [bound_ascending.f, bound_ascending.l0, wrap64, rd, h1, h2, h3] <;> omega
/-- A valid span. -/
def VP (l h a : Int) : Prop := -20000000000000 ≤ l ∧ l ≤ h ∧ h ≤ 20000000000000 ∧ -2000000000 ≤ a ∧ a ≤ 20000000000000
instance (l h a : Int) : Decidable (VP l h a) := by unfold VP; exact inferInstance
/-- By how much a span grows after e microseconds. -/
def MO (e : Int) : Int := (51 * e + 999999) / 1000000 + 1
theorem valid_eq (k : Nat) (l h a : Int) : bound_span_valid.f (k + 5) l h a = some (decide (VP l h a)) := by
  unfold bound_span_valid.f VP
  rw [asc4, asc3 (k + 1)]
  by_cases h1 : (-20000000000000 ≤ l ∧ l ≤ h ∧ h ≤ 20000000000000) <;> by_cases h2 : (-2000000000 ≤ a ∧ a ≤ 20000000000000) <;> simp [h1, h2] <;> omega
def G (l h a now : Int) : Int × Int × Int × Int :=
  if VP l h a ∧ a ≤ now ∧ now ≤ 20000000000000 then (if VP (l - MO (now - a)) (h + MO (now - a)) now then (l - MO (now - a), h + MO (now - a), now, 0) else (0, 0, 0, 3)) else (0, 0, 0, 1)
theorem more_eq {e : Int} (h0 : 0 ≤ e) (h1 : e ≤ 40000000000000) : wrap64 ((wrap64 (Int.tdiv (wrap64 ((wrap64 ((wrap64 (51 * (wrap64 e))) + 1000000)) - 1)) 1000000)) + 1) = MO e := by
  rw [w64 (x := e) (by omega), w64 (x := 51 * e) (by omega), w64 (x := 51 * e + 1000000) (by omega), w64 (x := 51 * e + 1000000 - 1) (by omega), Int.tdiv_eq_ediv_of_nonneg (by omega), w64 (x := (51 * e + 1000000 - 1) / 1000000) (by omega), w64 (by omega)]
  unfold MO
  omega
theorem grow_eq (k : Nat) (l h a now : Int) : bound_span_grow.f (k + 6) l h a now = some (G l h a now) := by
  unfold bound_span_grow.f G
  rw [show k + 6 = (k + 1) + 5 from rfl, valid_eq, show k + 1 + 5 = (k + 2) + 4 from rfl, asc3]
  by_cases h1 : VP l h a
  · by_cases h2 : a ≤ now ∧ now ≤ 20000000000000
    · have h3 := h1
      unfold VP at h3
      simp only [h1, h2, Option.bind_some, decide_true, if_true, and_self, Bool.not_true, bound_span_grow.j0, Bool.false_eq_true, if_false]
      rw [more_eq (by omega) (by omega)]
      have hm : 0 ≤ MO (now - a) ∧ MO (now - a) ≤ 3000000000 := by unfold MO; omega
      rw [w64 (x := l - MO (now - a)) (by omega), w64 (x := h + MO (now - a)) (by omega), show k + 5 = k + 5 from rfl, valid_eq]
      by_cases h4 : VP (l - MO (now - a)) (h + MO (now - a)) now <;> simp [h4]
    · simp [h1, h2, bound_span_grow.j0]
  · simp [h1, bound_span_grow.j0]
theorem Grow_eq (k : Nat) (l h a now : Int) : bound_Grow.f (k + 6) l h a now = some (G l h a now) := by
  unfold bound_Grow.f; rw [grow_eq]; rfl
/-- By how much a span at the time a grows when it meets one at the time b. -/
def dl (a b : Int) : Int := if b < a then 0 else MO (b - a)
def M (a0 a1 a2 b0 b1 b2 : Int) : Int × Int × Int × Int :=
  if VP a0 a1 a2 ∧ VP b0 b1 b2 then
    (if VP (a0 - dl a2 b2) (a1 + dl a2 b2) (mx a2 b2) ∧ VP (b0 - dl b2 a2) (b1 + dl b2 a2) (mx a2 b2) then
      (if mx (a0 - dl a2 b2) (b0 - dl b2 a2) > mn (a1 + dl a2 b2) (b1 + dl b2 a2) then (0, 0, 0, 16) else (mx (a0 - dl a2 b2) (b0 - dl b2 a2), mn (a1 + dl a2 b2) (b1 + dl b2 a2), mx a2 b2, 0))
     else (0, 0, 0, 3))
  else (0, 0, 0, 1)
def WD (l h a : Int) : Int := if VP l h a then h - l else -1
theorem Width_eq (k : Nat) (l h a : Int) : bound_Width.f (k + 6) l h a = some (WD l h a) := by
  unfold bound_Width.f bound_Valid.f WD
  rw [show k + 6 = (k + 1) + 5 from rfl, valid_eq]
  by_cases h1 : VP l h a
  · have h2 := h1
    unfold VP at h2
    simp only [h1, Option.bind_some, decide_true, if_true]
    rw [w64 (by omega)]
  · simp [h1]
end Go.Proofs.Ytkbfhonoamgjgaa.P
end
section
/- Plain laws of the functions of package timesync. Conditions: none. -/
namespace Go.Proofs.Ytkbfhonoamgjgaa.P
open Go.RowKit Go.Proofs.YtkbfhonoamgjgaaW.PrintWords Go.Proofs.YtkbfhonoamgjgaaW.PrintLast Go.Proofs.YtkbfhonoamgjgaaW.PrintMore
set_option linter.unusedVariables false
set_option linter.unusedSimpArgs false
/-- A valid state. -/
def SV (sy : Bool) (l h a ho so he : Int) : Prop := (-1 ≤ so ∧ so < 60 ∧ 0 ≤ he ∧ he ≤ 1000000000) ∧ (if sy = true then ho = 0 ∨ (1 ≤ ho ∧ ho ≤ 60 ∧ VP l h a) else ho = 60)
instance (sy : Bool) (l h a ho so he : Int) : Decidable (SV sy l h a ho so he) := by unfold SV; exact inferInstance
theorem svalid_eq (k : Nat) (sy : Bool) (l h a ho so he : Int) : timesync_state_valid.f (k + 6) sy l h a ho so he = some (decide (SV sy l h a ho so he)) := by
  have hj : ∀ b, timesync_state_valid.j0 (k + 6) b sy l h a ho so he = some (!b && decide (if sy = true then ho = 0 ∨ (1 ≤ ho ∧ ho ≤ 60 ∧ VP l h a) else ho = 60)) := by
    intro b
    rw [show k + 6 = (k + 5) + 1 from rfl]
    simp only [timesync_state_valid.j0, timesync_state_root.f, bound_Valid.f, valid_eq]
    cases b <;> cases sy <;> simp
    · by_cases h1 : ho = 60 <;> simp [h1]
    · by_cases h1 : ho = 0
      · simp [h1]
      · by_cases h2 : 1 ≤ ho <;> by_cases h3 : ho ≤ 60 <;> by_cases h4 : VP l h a <;> simp [h1, h2, h3, h4]
  unfold timesync_state_valid.f
  by_cases h1 : so < -1
  · rw [if_pos h1, hj, decide_eq_false (show ¬ SV sy l h a ho so he from fun hh => by have := hh.1; omega)]; rfl
  · by_cases h2 : so ≥ 60
    · rw [if_neg h1, if_pos h2, hj, decide_eq_false (show ¬ SV sy l h a ho so he from fun hh => by have := hh.1; omega)]; rfl
    · by_cases h3 : he < 0
      · rw [if_neg h1, if_neg h2, if_pos h3, hj, decide_eq_false (show ¬ SV sy l h a ho so he from fun hh => by have := hh.1; omega)]; rfl
      · rw [if_neg h1, if_neg h2, if_neg h3, hj]
        by_cases h4 : he > 1000000000
        · rw [decide_eq_false (show ¬ SV sy l h a ho so he from fun hh => by have := hh.1; omega), decide_eq_true h4]; rfl
        · have h5 : (-1 ≤ so ∧ so < 60 ∧ 0 ≤ he ∧ he ≤ 1000000000) := by omega
          unfold SV
          rw [decide_eq_false h4]
          simp [h5]
/-- Is a hint taken? -/
def TK (sy : Bool) (ho so fr hh : Int) : Prop := ¬ (sy = true ∧ ho = 0) ∧ (sy = false ∨ hh < ho ∨ fr = so)
instance (sy : Bool) (ho so fr hh : Int) : Decidable (TK sy ho so fr hh) := by unfold TK; exact inferInstance
abbrev T8 := Bool × Int × Int × Int × Int × Int × Int × Int
/-- What Bound answers. -/
def BO (sy : Bool) (l h a ho so he now : Int) : Int × Int :=
  if SV sy l h a ho so he then
    (if sy = true then (if ho = 0 then (0, 0) else if (G l h a now).2.2.2 = 0 then (if ((G l h a now).2.1 - (G l h a now).1 + 1) / 2 > 2000 then (0, 16) else (((G l h a now).2.1 - (G l h a now).1 + 1) / 2, 0)) else (0, (G l h a now).2.2.2)) else (0, 16))
  else (0, 1)
theorem G_form (l h a now : Int) : (G l h a now = (l - MO (now - a), h + MO (now - a), now, 0) ∧ VP l h a ∧ a ≤ now ∧ now ≤ 20000000000000 ∧ VP (l - MO (now - a)) (h + MO (now - a)) now) ∨ (G l h a now = (0, 0, 0, 3)) ∨ (G l h a now = (0, 0, 0, 1) ∧ ¬ (VP l h a ∧ a ≤ now ∧ now ≤ 20000000000000)) := by
  unfold G
  split
  · rename_i h1
    split
    · rename_i h2; exact .inl ⟨rfl, h1.1, h1.2.1, h1.2.2, h2⟩
    · exact .inr (.inl rfl)
  · rename_i h1; exact .inr (.inr ⟨rfl, h1⟩)
theorem Bound_eq (k : Nat) (sy : Bool) (l h a ho so he now : Int) : timesync_Bound.f (k + 6) sy l h a ho so he now = some (BO sy l h a ho so he now) := by
  unfold timesync_Bound.f BO timesync_state_root.f
  rw [svalid_eq, Grow_eq]
  by_cases h1 : SV sy l h a ho so he
  · rw [decide_eq_true h1, if_pos h1]
    cases sy
    · simp
    · by_cases h2 : ho = 0
      · simp [h2]
      · simp only [Option.bind_some, if_true, h2, beq_iff_eq, if_false]
        rcases G_form l h a now with ⟨e, _, _, _, hv⟩ | e | ⟨e, _⟩
        · rw [e]
          simp only [if_true]
          rw [Width_eq]
          have hw : WD (l - MO (now - a)) (h + MO (now - a)) now = h + MO (now - a) - (l - MO (now - a)) := by unfold WD; rw [if_pos hv]
          unfold VP at hv
          rw [hw]
          simp only [Option.bind_some]
          have hd : 0 ≤ h + MO (now - a) - (l - MO (now - a)) ∧ h + MO (now - a) - (l - MO (now - a)) ≤ 40000000000000 := by omega
          generalize h + MO (now - a) - (l - MO (now - a)) = d at *
          rw [w64 (x := d + 1) (by omega), Int.tdiv_eq_ediv_of_nonneg (by omega), w64 (by omega)]
          split <;> rfl
        · rw [e]; simp
        · rw [e]; simp
  · rw [decide_eq_false h1, if_neg h1]; rfl
/-- What Tick answers. -/
def TI (sy : Bool) (l h a ho so he now : Int) : Bool × Int × Int × Int × Int × Int × Int :=
  if SV sy l h a ho so he ∧ sy = true ∧ (BO sy l h a ho so he now).2 ≠ 0 then (false, 0, 0, 0, 60, -1, 0) else (sy, l, h, a, ho, so, he)
theorem Tick_eq (k : Nat) (sy : Bool) (l h a ho so he now : Int) : timesync_Tick.f (k + 6) sy l h a ho so he now = some (TI sy l h a ho so he now) := by
  unfold timesync_Tick.f TI timesync_Start.f
  rw [Bound_eq, svalid_eq]
  cases sy
  · simp
  · by_cases h1 : SV true l h a ho so he
    · by_cases h2 : (BO true l h a ho so he now).2 = 0
      · simp [h1, h2]
      · simp [h1, h2]
    · simp [h1]
end Go.Proofs.Ytkbfhonoamgjgaa.P
end
section
/- The examples of layer 9 hold, and the forms of what Hear answers. Conditions: none. -/
namespace Go.Proofs.Ytkbfhonoamgjgaa.P
open Go.RowKit Go.Proofs.YtkbfhonoamgjgaaW.PrintWords Go.Proofs.YtkbfhonoamgjgaaW.PrintLast Go.Proofs.YtkbfhonoamgjgaaW.PrintMore
set_option linter.unusedVariables false
set_option linter.unusedSimpArgs false
theorem head60 : slotmeshlaw09_head.f 60 = some true := by kernel_rfl
end Go.Proofs.Ytkbfhonoamgjgaa.P
end
section
/- Bounds at an earlier and a later time. Conditions: none. -/
namespace Go.Proofs.Ytkbfhonoamgjgaa.P
open Go.RowKit Go.Proofs.YtkbfhonoamgjgaaW.PrintWords Go.Proofs.YtkbfhonoamgjgaaW.PrintLast Go.Proofs.YtkbfhonoamgjgaaW.PrintMore
set_option linter.unusedVariables false
set_option linter.unusedSimpArgs false
theorem BO_root {l h a ho so he now : Int} (hs : SV true l h a ho so he) (c : ho = 0) : BO true l h a ho so he now = (0, 0) := by
  unfold BO
  rw [if_pos hs, if_pos rfl, if_pos c]
theorem BO_ok {l h a ho so he now : Int} (hs : SV true l h a ho so he) (c : ho ≠ 0) (e : (BO true l h a ho so he now).2 = 0) :
    VP l h a ∧ (a ≤ now ∧ now ≤ 20000000000000) ∧ VP (l - MO (now - a)) (h + MO (now - a)) now ∧ (BO true l h a ho so he now).1 = (h + MO (now - a) - (l - MO (now - a)) + 1) / 2 ∧ (h + MO (now - a) - (l - MO (now - a)) + 1) / 2 ≤ 2000 := by
  unfold BO at e ⊢
  rw [if_pos hs, if_pos rfl, if_neg c] at e ⊢
  rcases G_form l h a now with ⟨g, v, n1, n2, v2⟩ | g | ⟨g, _⟩
  · rw [g] at e ⊢
    dsimp only at e ⊢
    rw [if_pos rfl] at e ⊢
    split at e
    · exact absurd e (by simp)
    · rename_i q
      rw [if_neg q]
      exact ⟨v, ⟨n1, n2⟩, v2, rfl, by omega⟩
  · rw [g] at e; exact absurd e (by simp)
  · rw [g] at e; exact absurd e (by simp)
/-- An earlier time that is not before the span's own has a bound, if the later one has, and not a greater one. -/
theorem BO_earlier {l h a ho so he now later : Int} (hs : SV true l h a ho so he) (h0 : ho ≠ 0 → a ≤ now) (h1 : now ≤ later) (e : (BO true l h a ho so he later).2 = 0) :
    (BO true l h a ho so he now).2 = 0 ∧ (BO true l h a ho so he now).1 ≤ (BO true l h a ho so he later).1 := by
  by_cases c : ho = 0
  · rw [BO_root hs c, BO_root hs c]
    exact ⟨rfl, Int.le_refl _⟩
  · obtain ⟨v, ⟨n1, n2⟩, v2, e1, e2⟩ := BO_ok hs c e
    have h2 := h0 c
    have hm : 0 ≤ MO (now - a) ∧ MO (now - a) ≤ MO (later - a) := by unfold MO; omega
    have w2 : VP (l - MO (now - a)) (h + MO (now - a)) now := by
      unfold VP at v v2 ⊢
      omega
    have g : G l h a now = (l - MO (now - a), h + MO (now - a), now, 0) := by unfold G; rw [if_pos ⟨v, h2, by omega⟩, if_pos w2]
    rw [e1]
    unfold BO
    rw [if_pos hs, if_pos rfl, if_neg c, g]
    dsimp only
    rw [if_pos rfl, if_neg (by omega)]
    exact ⟨rfl, by dsimp only; omega⟩
end Go.Proofs.Ytkbfhonoamgjgaa.P
end
section
/- Plain laws of the reference functions of layer 8. Conditions: none. -/
namespace Go.Proofs.Ytkbfhonoamgjgaa.P
open Go.RowKit Go.Proofs.YtkbfhonoamgjgaaW.PrintWords Go.Proofs.YtkbfhonoamgjgaaW.PrintLast Go.Proofs.YtkbfhonoamgjgaaW.PrintMore
set_option linter.unusedVariables false
set_option linter.unusedSimpArgs false
theorem rvalid_eq (l h a : Int) : slotmeshref08_Valid.f l h a = some (decide (VP l h a)) := by
  unfold slotmeshref08_Valid.f VP
  by_cases h1 : l ≥ -20000000000000 <;> by_cases h2 : l ≤ h <;> by_cases h3 : h ≤ 20000000000000 <;> by_cases h4 : a ≥ -2000000000 <;> by_cases h5 : a ≤ 20000000000000 <;> simp [h1, h2, h3, h4, h5] <;> omega
end Go.Proofs.Ytkbfhonoamgjgaa.P
end
section
/- Validity of a state by the reference implementation of layer 9. Conditions: none. -/
namespace Go.Proofs.Ytkbfhonoamgjgaa.P
open Go.RowKit Go.Proofs.YtkbfhonoamgjgaaW.PrintWords Go.Proofs.YtkbfhonoamgjgaaW.PrintLast Go.Proofs.YtkbfhonoamgjgaaW.PrintMore
set_option linter.unusedVariables false
set_option linter.unusedSimpArgs false
theorem rsvalid_eq (k : Nat) (sy : Bool) (l h a ho so he : Int) : slotmeshref09_Valid.f (k + 1) sy l h a ho so he = some (decide (SV sy l h a ho so he)) := by
  have hj : ∀ b, slotmeshref09_Valid.j0 (k + 1) b sy l h a ho so he = some (!b && decide (if sy = true then ho = 0 ∨ (1 ≤ ho ∧ ho ≤ 60 ∧ VP l h a) else ho = 60)) := by
    intro b
    simp only [slotmeshref09_Valid.j0, rvalid_eq]
    cases b <;> cases sy <;> simp
    · by_cases h1 : ho = 60 <;> simp [h1]
    · by_cases h1 : ho = 0
      · simp [h1]
      · by_cases h2 : 1 ≤ ho <;> by_cases h3 : ho ≤ 60 <;> by_cases h4 : VP l h a <;> simp [h1, h2, h3, h4]
  unfold slotmeshref09_Valid.f
  by_cases h1 : so < -1
  · rw [if_pos h1, hj, decide_eq_false (show ¬ SV sy l h a ho so he from fun hh => by have := hh.1; omega)]; rfl
  · by_cases h2 : so ≥ 60
    · rw [if_neg h1, if_pos h2, hj, decide_eq_false (show ¬ SV sy l h a ho so he from fun hh => by have := hh.1; omega)]; rfl
    · by_cases h3 : he < 0
      · rw [if_neg h1, if_neg h2, if_pos h3, hj, decide_eq_false (show ¬ SV sy l h a ho so he from fun hh => by have := hh.1; omega)]; rfl
      · rw [if_neg h1, if_neg h2, if_neg h3, hj]
        by_cases h4 : he > 1000000000
        · rw [decide_eq_false (show ¬ SV sy l h a ho so he from fun hh => by have := hh.1; omega), decide_eq_true h4]; rfl
        · have h5 : (-1 ≤ so ∧ so < 60 ∧ 0 ≤ he ∧ he ≤ 1000000000) := by omega
          unfold SV
          rw [decide_eq_false h4]
          simp [h5]
end Go.Proofs.Ytkbfhonoamgjgaa.P
end
section
/- The pure statement of TimesyncFades. Conditions: none. -/
namespace Go.Proofs.Ytkbfhonoamgjgaa.P
open Go.RowKit Go.Proofs.YtkbfhonoamgjgaaW.PrintWords Go.Proofs.YtkbfhonoamgjgaaW.PrintLast Go.Proofs.YtkbfhonoamgjgaaW.PrintMore
set_option linter.unusedVariables false
set_option linter.unusedSimpArgs false
theorem TimesyncFades_pure : ∀ (a0_0 : Bool) (a0_1 : Int) (a0_2 : Int) (a0_3 : Int) (a0_4 : Int) (a0_5 : Int) (a0_6 : Int) (a1 : Int) (a2 : Int), (Lit.int .i64 a0_1).wf = true → (Lit.int .i64 a0_2).wf = true → (Lit.int .i64 a0_3).wf = true → (Lit.int .i64 a0_4).wf = true → (Lit.int .i64 a0_5).wf = true → (Lit.int .i64 a0_6).wf = true → (Lit.int .i64 a1).wf = true → (Lit.int .i64 a2).wf = true → ∃ k, slotmeshlaw09_TimesyncFades.f k a0_0 a0_1 a0_2 a0_3 a0_4 a0_5 a0_6 a1 a2 = some true := by
  intro sy l h a ho so he now later
  intros
  refine ⟨60, ?_⟩
  unfold slotmeshlaw09_TimesyncFades.f slotmeshref09_Root.f
  rw [head60, show (60 : Nat) = 59 + 1 from rfl, rsvalid_eq]
  simp only [Option.bind_some]
  have stop : ∀ q, q = true → slotmeshlaw09_TimesyncFades.j0 (59 + 1) now later true q sy l h a ho so he = some true := by
    intro q e; subst e; simp [slotmeshlaw09_TimesyncFades.j0]
  by_cases c1 : SV sy l h a ho so he
  rotate_left
  · rw [decide_eq_false c1, if_neg (by decide)]; exact stop _ rfl
  rw [decide_eq_true c1, if_pos rfl]
  cases sy
  · rw [if_neg (by decide)]; exact stop _ rfl
  simp only [if_true, Option.bind_some, beq_iff_eq]
  by_cases c2 : ho = 0
  · rw [if_pos c2]; exact stop _ rfl
  rw [if_neg c2]
  by_cases c3 : now < a
  · rw [if_pos c3]; exact stop _ rfl
  rw [if_neg c3]
  by_cases c4 : later < now
  · rw [decide_eq_true c4]; exact stop _ rfl
  rw [decide_eq_false c4]
  have ts : timesync_Start.f false = some (false, 0, 0, 0, 60, -1, 0) := by unfold timesync_Start.f; rw [if_neg (by decide)]
  rw [slotmeshlaw09_TimesyncFades.j0, if_neg (by decide), show (59 : Nat) = 53 + 6 from rfl, Bound_eq, Option.bind_some, Bound_eq, Option.bind_some, Tick_eq, Option.bind_some, Tick_eq, Option.bind_some, ts]
  by_cases f0 : (BO true l h a ho so he later).2 = 0
  · obtain ⟨e0, nm⟩ := BO_earlier (now := now) c1 (fun _ => by omega) (by omega) f0
    have t1 : TI true l h a ho so he now = (true, l, h, a, ho, so, he) := by unfold TI; rw [if_neg (fun q => q.2.2 e0)]
    have t2 : TI true l h a ho so he later = (true, l, h, a, ho, so, he) := by unfold TI; rw [if_neg (fun q => q.2.2 f0)]
    rw [if_pos e0, if_pos f0, t1, t2, e0, f0, decide_eq_false (show ¬ (BO true l h a ho so he now).1 > (BO true l h a ho so he later).1 by omega), show (53 + 6 : Nat) = 58 + 1 from rfl]
    simp [slotmeshlaw09_TimesyncFades.j1]
  · have t2 : TI true l h a ho so he later = (false, 0, 0, 0, 60, -1, 0) := by unfold TI; rw [if_pos ⟨c1, rfl, f0⟩]
    by_cases e0 : (BO true l h a ho so he now).2 = 0
    · have t1 : TI true l h a ho so he now = (true, l, h, a, ho, so, he) := by unfold TI; rw [if_neg (fun q => q.2.2 e0)]
      rw [if_pos e0, if_neg f0, t1, t2, e0, show (53 + 6 : Nat) = 58 + 1 from rfl]
      simp [slotmeshlaw09_TimesyncFades.j1, f0]
    · have t1 : TI true l h a ho so he now = (false, 0, 0, 0, 60, -1, 0) := by unfold TI; rw [if_pos ⟨c1, rfl, e0⟩]
      rw [if_neg e0, if_neg f0, t1, t2, show (53 + 6 : Nat) = 58 + 1 from rfl]
      simp [slotmeshlaw09_TimesyncFades.j1, f0, e0, ts]
end Go.Proofs.Ytkbfhonoamgjgaa.P
end
section
/- The call of TimesyncFades answers true, out of its pure statement. Conditions: none. -/
namespace Go.Proofs.Ytkbfhonoamgjgaa.P
open Go.RowKit Go.Proofs.YtkbfhonoamgjgaaW.PrintWords
theorem TimesyncFades_walk (a0_0 : Bool) (a0_1 : Int) (a0_2 : Int) (a0_3 : Int) (a0_4 : Int) (a0_5 : Int) (a0_6 : Int) (a1 : Int) (a2 : Int) (w : World) (w0_1 : (Lit.int .i64 a0_1).wf = true) (w0_2 : (Lit.int .i64 a0_2).wf = true) (w0_3 : (Lit.int .i64 a0_3).wf = true) (w0_4 : (Lit.int .i64 a0_4).wf = true) (w0_5 : (Lit.int .i64 a0_5).wf = true) (w0_6 : (Lit.int .i64 a0_6).wf = true) (w1 : (Lit.int .i64 a1).wf = true) (w2 : (Lit.int .i64 a2).wf = true) :
    Calls Try.prog 7 #[.agg #[.bool a0_0, .int .i64 a0_1, .int .i64 a0_2, .int .i64 a0_3, .int .i64 a0_4, .int .i64 a0_5, .int .i64 a0_6], .int .i64 a1, .int .i64 a2] w fun e w' => e = .returned (.bool true) ∧ Below w.heap.size w w' := by
  obtain ⟨k, h⟩ := TimesyncFades_pure a0_0 a0_1 a0_2 a0_3 a0_4 a0_5 a0_6 a1 a2 w0_1 w0_2 w0_3 w0_4 w0_5 w0_6 w1 w2
  refine (slotmeshlaw09_TimesyncFades.calls k a0_0 a0_1 a0_2 a0_3 a0_4 a0_5 a0_6 a1 a2 true w h).mono ?_
  rintro e w' ⟨rfl, hd⟩
  exact ⟨rfl, hd⟩
end Go.Proofs.Ytkbfhonoamgjgaa.P
end
section
/- The given statement of TimesyncFades: for every input it answers true, and the input reads as before. Conditions: none. -/
namespace Go.Proofs.Ytkbfhonoamgjgaa.timesyncFades
open Go.ChangeShapes Go.WideShapes Go.ChangeAt Go.RowKit
set_option linter.unusedVariables false
set_option maxRecDepth 100000
theorem own : ownKnob Try.prog.godebug = none := by kernel_rfl
theorem laidOut : laidOutB Try.prog = true := by kernel_rfl
set_option maxRecDepth 100000 in
theorem lifted (os : Os) (started : os.Started) (H : Type) (enc : TypeId × Value → H) :
    ReturnsInHanded {} Try.checked os 7 .any (Rows.timesyncFadesSpec.pre6 enc Try.prog Try.f7 Rows.timesyncFadesRow.domain false) (Rows.timesyncFadesSpec.post enc Try.prog Try.f7 false true false false) := by
  refine returnsInHanded_of_change_sized (C := Try.checked) own started (by kernel_rfl) Try.func7
    (ChangeSpec.witness6 (enc := enc) (C := Try.checked) false ⟨#[], #[.agg #[.bool false, .int .i64 0, .int .i64 0, .int .i64 0, .int .i64 0, .int .i64 0, .int .i64 0], .int .i64 0, .int .i64 0], []⟩ 8 (by kernel_rfl) (by kernel_rfl) (by kernel_rfl) (by kernel_rfl)) ?_
  intro W base args ds gs before hval0 hW hcnd hsz0 _
  have hval : ∀ (j : Nat) t v, Try.f7.params[j]? = some t → args[j]? = some v → Value.okWide Try.prog W .any base t v := hval0
  have hW' := hW
  obtain ⟨p, q, hA0, hV, rfl, hfz, hnd⟩ := hW
  have hA : DataW.TrodAll enc Try.prog W 0 (fun _ => true) true Try.f7.params.toList args.toList ds p := hA0
  rw [Try.params7] at hA hval
  obtain ⟨v0, vs0, d0, ds0, p0, q0, hargs, rfl, rfl, h0, r0⟩ := trodAll_cons hA
  obtain ⟨v1, vs1, d1, ds1, p1, q1, rfl, rfl, rfl, h1, r1⟩ := trodAll_cons r0
  obtain ⟨v2, vs2, d2, ds2, p2, q2, rfl, rfl, rfl, h2, r2⟩ := trodAll_cons r1
  obtain ⟨rfl, rfl, rfl⟩ := trodAll_nil r2
  obtain rfl : args = #[v0, v1, v2] := by cases args; simp_all
  obtain ⟨rfl, rfl⟩ := trodVars_none hV
  have lt0 : ∀ x ∈ p0, x.block < W.heap.size := by obtain ⟨m, hm⟩ := h0; exact DataW.trod_lt m _ _ _ hm
  obtain ⟨a0_0, a0_1, a0_2, a0_3, a0_4, a0_5, a0_6, rfl, w0_1, w0_2, w0_3, w0_4, w0_5, w0_6⟩ := open25 (hval 0 25 v0 rfl rfl) h0
  obtain ⟨a1, rfl, rfl, rfl, w1⟩ := open_int Try.underlying3 (hval 1 3 v1 rfl rfl) h1
  obtain ⟨a2, rfl, rfl, rfl, w2⟩ := open_int Try.underlying3 (hval 2 3 v2 rfl rfl) h2
  clear hA0 hval0 hsz0
  refine (P.TimesyncFades_walk a0_0 a0_1 a0_2 a0_3 a0_4 a0_5 a0_6 a1 a2 W w0_1 w0_2 w0_3 w0_4 w0_5 w0_6 w1 w2).mono fun e W' ⟨he, bel⟩ => ?_
  subst he
  exact ⟨_, rfl, _, _, _, [], _, [], hW', trodAll_mk1 (shut_bool Try.underlying4 _), (trodAll_cons_mk (Below.trod laidOut (by kernel_rfl) (of_decide_eq_true (by kernel_rfl)) h0 bel lt0) (trodAll_cons_mk (shut_int Try.underlying3 w1) (trodAll_cons_mk (shut_int Try.underlying3 w2) trodAll_mk0))), rfl, bel.frame _, fun h => by cases h⟩
theorem over : Rows.timesyncFadesRow.holds Try.pinned (OpenSpec.ofChange Rows.timesyncFadesSpec) :=
  OpenClaim.holds_of_wide 7 Try.f7 rfl rfl rfl rfl rfl rfl rfl ⟨rfl, rfl, rfl, rfl, rfl⟩ rfl rfl rfl rfl rfl (by kernel_rfl) Try.func7 (by kernel_rfl)
    (of_decide_eq_true (by kernel_rfl)) (by unfold Func.isWrapper; first | (rw [if_pos (by decide +kernel)]; kernel_rfl) | (rw [if_neg (by decide +kernel)]; exact ⟨rfl, rfl⟩))
    (fun os started H enc _ => lifted os started H enc)
theorem proved : Rows.TimesyncFadesSaid := over
end Go.Proofs.Ytkbfhonoamgjgaa.timesyncFades
namespace Go.Proofs.Ytkbfhonoamgjgaa
theorem timesyncFades_holds : Rows.TimesyncFadesSaid := timesyncFades.proved
#print axioms timesyncFades_holds
end Go.Proofs.Ytkbfhonoamgjgaa
end
