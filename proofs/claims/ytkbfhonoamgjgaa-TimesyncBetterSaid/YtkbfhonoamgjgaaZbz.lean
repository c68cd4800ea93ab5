/- A claim's own texts, laid together by wip/zip.py without what the claim does not use. Conditions: none. -/
import Derived.Test.YtkbfhonoamgjgaaZbpx11
import Derived.Test.YtkbfhonoamgjgaaZbpx13
import Derived.Test.YtkbfhonoamgjgaaZbpx14
import Derived.Test.YtkbfhonoamgjgaaZbpx5
import Derived.Test.YtkbfhonoamgjgaaZbpx12
import Derived.Test.YtkbfhonoamgjgaaZbpx15
import Derived.Test.YtkbfhonoamgjgaaZbpx17
import Derived.Test.YtkbfhonoamgjgaaZbpx3
import Derived.Test.YtkbfhonoamgjgaaZbpx18
import Derived.Test.YtkbfhonoamgjgaaZbpx0
import Derived.Test.YtkbfhonoamgjgaaZbpx19
import Derived.Test.YtkbfhonoamgjgaaZbpx28
import Derived.Test.YtkbfhonoamgjgaaZbpx20
import Derived.Test.YtkbfhonoamgjgaaZbpx23
import Derived.Test.YtkbfhonoamgjgaaZbpx37
import Derived.Test.YtkbfhonoamgjgaaRows
import Derived.Test.YtkbfhonoamgjgaaZbopen
import Derived.WalkKit
import Derived.ProofKit
import Derived.OpenShut
import Derived.ShutString
import Derived.ChangeOld
import Derived.Below
import Derived.SizedLaws
import Derived.Carry
section
/- Plain laws of what the printed functions compute. Conditions: none. -/
namespace Go.Proofs.Ytkbfhonoamgjgaa.P
open Go.RowKit Go.Proofs.YtkbfhonoamgjgaaW.PrintWords Go.Proofs.YtkbfhonoamgjgaaW.PrintLast Go.Proofs.YtkbfhonoamgjgaaW.PrintMore
set_option linter.unusedVariables false
set_option linter.unusedSimpArgs false
theorem w64 {x : Int} (h : -9223372036854775808 ≤ x ∧ x ≤ 9223372036854775807) : wrap64 x = x := by
  unfold wrap64
  omega
theorem asc3 (k : Nat) (a b c : Int) : bound_ascending.f (k + 4) [a, b, c] = some (decide (a ≤ b ∧ b ≤ c)) := by
  by_cases h1 : b < a <;> by_cases h2 : c < b <;> simp [bound_ascending.f, bound_ascending.l0, wrap64, rd, h1, h2] <;> omega
theorem asc4 (k : Nat) (a b c d : Int) : bound_ascending.f (k + 5) [a, b, c, d] = some (decide (a ≤ b ∧ b ≤ c ∧ c ≤ d)) := by
  by_cases h1 : b < a <;> by_cases h2 : c < b <;> by_cases h3 : d < c <;> simp [bound_ascending.f, bound_ascending.l0, wrap64, rd, h1, h2, h3] <;> omega
/-- A valid span. -/
def VP (l h a : Int) : Prop := -20000000000000 ≤ l ∧ l ≤ h ∧ h ≤ 20000000000000 ∧ -2000000000 ≤ a ∧ a ≤ 20000000000000
instance (l h a : Int) : Decidable (VP l h a) := by unfold VP; exact inferInstance
/-- By how much a span grows after e microseconds. -/
def MO (e : Int) : Int := (51 * e + 999999) / 1000000 + 1
theorem valid_eq (k : Nat) (l h a : Int) : bound_span_valid.f (k + 5) l h a = some (decide (VP l h a)) := by
  unfold bound_span_valid.f VP
  rw [asc4, asc3 (k + 1)]
  by_cases h1 : (-20000000000000 ≤ l ∧ l ≤ h ∧ h ≤ 20000000000000) <;> by_cases h2 : (-2000000000 ≤ a ∧ a ≤ 20000000000000) <;> simp [h1, h2] <;> omega
def G (l h a now : Int) : Int × Int × Int × Int :=
  if VP l h a ∧ a ≤ now ∧ now ≤ 20000000000000 then (if VP (l - MO (now - a)) (h + MO (now - a)) now then (l - MO (now - a), h + MO (now - a), now, 0) else (0, 0, 0, 3)) else (0, 0, 0, 1)
theorem more_eq {e : Int} (h0 : 0 ≤ e) (h1 : e ≤ 40000000000000) : wrap64 ((wrap64 (Int.tdiv (wrap64 ((wrap64 ((wrap64 (51 * (wrap64 e))) + 1000000)) - 1)) 1000000)) + 1) = MO e := by
  rw [w64 (x := e) (by omega), w64 (x := 51 * e) (by omega), w64 (x := 51 * e + 1000000) (by omega), w64 (x := 51 * e + 1000000 - 1) (by omega), Int.tdiv_eq_ediv_of_nonneg (by omega), w64 (x := (51 * e + 1000000 - 1) / 1000000) (by omega), w64 (by omega)]
  unfold MO
  omega
theorem grow_eq (k : Nat) (l h a now : Int) : bound_span_grow.f (k + 6) l h a now = some (G l h a now) := by
  unfold bound_span_grow.f G
  rw [show k + 6 = (k + 1) + 5 from rfl, valid_eq, show k + 1 + 5 = (k + 2) + 4 from rfl, asc3]
  by_cases h1 : VP l h a
  · by_cases h2 : a ≤ now ∧ now ≤ 20000000000000
    · have h3 := h1
      unfold VP at h3
      simp only [h1, h2, Option.bind_some, decide_true, if_true, and_self, Bool.not_true, bound_span_grow.j0, Bool.false_eq_true, if_false]
      rw [more_eq (by omega) (by omega)]
      have hm : 0 ≤ MO (now - a) ∧ MO (now - a) ≤ 3000000000 := by unfold MO; omega
      rw [w64 (x := l - MO (now - a)) (by omega), w64 (x := h + MO (now - a)) (by omega), show k + 5 = k + 5 from rfl, valid_eq]
      by_cases h4 : VP (l - MO (now - a)) (h + MO (now - a)) now <;> simp [h4]
    · simp [h1, h2, bound_span_grow.j0]
  · simp [h1, bound_span_grow.j0]
theorem Grow_eq (k : Nat) (l h a now : Int) : bound_Grow.f (k + 6) l h a now = some (G l h a now) := by
  unfold bound_Grow.f; rw [grow_eq]; rfl
/-- By how much a span at the time a grows when it meets one at the time b. -/
def dl (a b : Int) : Int := if b < a then 0 else MO (b - a)
def M (a0 a1 a2 b0 b1 b2 : Int) : Int × Int × Int × Int :=
  if VP a0 a1 a2 ∧ VP b0 b1 b2 then
    (if VP (a0 - dl a2 b2) (a1 + dl a2 b2) (mx a2 b2) ∧ VP (b0 - dl b2 a2) (b1 + dl b2 a2) (mx a2 b2) then
      (if mx (a0 - dl a2 b2) (b0 - dl b2 a2) > mn (a1 + dl a2 b2) (b1 + dl b2 a2) then (0, 0, 0, 16) else (mx (a0 - dl a2 b2) (b0 - dl b2 a2), mn (a1 + dl a2 b2) (b1 + dl b2 a2), mx a2 b2, 0))
     else (0, 0, 0, 3))
  else (0, 0, 0, 1)
theorem mx_comm' (a b : Int) : mx a b = mx b a := by unfold mx; split <;> split <;> omega
theorem mn_comm' (a b : Int) : mn a b = mn b a := by unfold mn; split <;> split <;> omega
theorem M_comm (a0 a1 a2 b0 b1 b2 : Int) : M a0 a1 a2 b0 b1 b2 = M b0 b1 b2 a0 a1 a2 := by
  unfold M
  rw [mx_comm' a2 b2, mx_comm' (a0 - dl a2 b2), mn_comm' (a1 + dl a2 b2)]
  by_cases h1 : VP a0 a1 a2 <;> by_cases h2 : VP b0 b1 b2 <;> by_cases h3 : VP (a0 - dl a2 b2) (a1 + dl a2 b2) (mx b2 a2) <;> by_cases h4 : VP (b0 - dl b2 a2) (b1 + dl b2 a2) (mx b2 a2) <;> simp [h1, h2, h3, h4]
theorem core_eq (k : Nat) (x0 x1 x2 y0 y1 y2 : Int) (hx : VP x0 x1 x2) (hy : VP y0 y1 y2) (h : x2 ≤ y2) : bound_Meet.core (k + 6) x0 x1 x2 y0 y1 y2 = some (M x0 x1 x2 y0 y1 y2) := by
  unfold bound_Meet.core
  rw [grow_eq, grow_eq]
  have hx' := hx
  have hy' := hy
  unfold VP at hx' hy'
  have hm : mx x2 y2 = y2 := by unfold mx; split <;> omega
  have hd : dl x2 y2 = MO (y2 - x2) := by unfold dl; rw [if_neg (by omega)]
  have hG : G x0 x1 x2 y2 = if VP (x0 - MO (y2 - x2)) (x1 + MO (y2 - x2)) y2 then (x0 - MO (y2 - x2), x1 + MO (y2 - x2), y2, 0) else (0, 0, 0, 3) := by unfold G; rw [if_pos ⟨hx, h, by omega⟩]
  by_cases h2 : x2 = y2
  · subst h2
    have hd2 : dl x2 x2 = MO 0 := by unfold dl; rw [if_neg (by omega), Int.sub_self]
    have hG2 : G y0 y1 x2 x2 = if VP (y0 - MO 0) (y1 + MO 0) x2 then (y0 - MO 0, y1 + MO 0, x2, 0) else (0, 0, 0, 3) := by unfold G; rw [if_pos ⟨hy, by omega, by omega⟩, Int.sub_self]
    rw [Int.sub_self] at hG
    unfold M
    rw [if_pos ⟨hx, hy⟩, hm, hd2, hG, hG2]
    by_cases h1 : VP (x0 - MO 0) (x1 + MO 0) x2
    · by_cases h3 : VP (y0 - MO 0) (y1 + MO 0) x2
      · rw [if_pos h1, if_pos h3, if_pos ⟨h1, h3⟩]
        simp only [Option.bind_some, if_true, bound_Meet.fin]
        split <;> rfl
      · rw [if_pos h1, if_neg h3, if_neg (fun h => h3 h.2)]
        simp [bound_Meet.fin]
    · rw [if_neg h1, if_neg (show ¬ (VP (x0 - MO 0) (x1 + MO 0) x2 ∧ VP (y0 - MO 0) (y1 + MO 0) x2) from fun h => h1 h.1)]
      simp [bound_Meet.fin]
  · have hd2 : dl y2 x2 = 0 := by unfold dl; rw [if_pos (by omega)]
    unfold M
    rw [if_pos ⟨hx, hy⟩, hm, hd, hd2, hG]
    have hy2 : VP (y0 - 0) (y1 + 0) y2 := by rw [Int.sub_zero, Int.add_zero]; exact hy
    by_cases h1 : VP (x0 - MO (y2 - x2)) (x1 + MO (y2 - x2)) y2
    · rw [if_pos h1, if_pos ⟨h1, hy2⟩, Int.sub_zero, Int.add_zero]
      simp only [Option.bind_some, if_neg h2, if_true, bound_Meet.fin]
      split <;> rfl
    · rw [if_neg h1, if_neg (fun h => h1 h.1)]
      simp [bound_Meet.fin, h2]
theorem Meet_eq (k : Nat) (a0 a1 a2 b0 b1 b2 : Int) : bound_Meet.f (k + 6) a0 a1 a2 b0 b1 b2 = some (M a0 a1 a2 b0 b1 b2) := by
  unfold bound_Meet.f
  rw [show k + 6 = (k + 1) + 5 from rfl, valid_eq, valid_eq]
  by_cases h1 : VP a0 a1 a2
  · by_cases h2 : VP b0 b1 b2
    · simp only [h1, h2, Option.bind_some, decide_true, if_true]
      by_cases h3 : a2 > b2
      · rw [if_pos h3, show k + 1 + 5 = k + 6 from rfl, core_eq k b0 b1 b2 a0 a1 a2 h2 h1 (by omega), M_comm]
      · rw [if_neg h3, show k + 1 + 5 = k + 6 from rfl, core_eq k a0 a1 a2 b0 b1 b2 h1 h2 (by omega)]
    · simp [h1, h2, M]
  · simp [h1, M]
def HD (bnd asn loc : Int) : Int × Int × Int × Int :=
  if (0 ≤ asn ∧ asn ≤ 1000000000) ∧ (0 ≤ bnd ∧ bnd ≤ 2000) ∧ (-2000000000 ≤ loc ∧ loc ≤ 20000000000000) then (asn * 10000 - loc - bnd, asn * 10000 - loc + bnd, loc, 0) else (0, 0, 0, 1)
theorem Heard_eq (k : Nat) (fr ho bnd asn loc : Int) : bound_Heard.f (k + 6) fr ho bnd asn loc = some (HD bnd asn loc) := by
  unfold bound_Heard.f HD
  rw [show k + 6 = (k + 2) + 4 from rfl, asc3, asc3, asc3]
  by_cases h1 : (0 ≤ asn ∧ asn ≤ 1000000000)
  · by_cases h2 : (0 ≤ bnd ∧ bnd ≤ 2000)
    · by_cases h3 : (-2000000000 ≤ loc ∧ loc ≤ 20000000000000)
      · simp only [h1, h2, h3, and_self, decide_true, Option.bind_some, if_true]
        rw [w64 (x := asn * 10000) (by omega), w64 (x := asn * 10000 - loc) (by omega), w64 (by omega), w64 (by omega)]
      · simp [h1, h2, h3]
    · simp [h1, h2]
  · simp [h1]
end Go.Proofs.Ytkbfhonoamgjgaa.P
end
section
/- Plain laws of the functions of package timesync. Conditions: none. -/
namespace Go.Proofs.Ytkbfhonoamgjgaa.P
open Go.RowKit Go.Proofs.YtkbfhonoamgjgaaW.PrintWords Go.Proofs.YtkbfhonoamgjgaaW.PrintLast Go.Proofs.YtkbfhonoamgjgaaW.PrintMore
set_option linter.unusedVariables false
set_option linter.unusedSimpArgs false
/-- A valid state. -/
def SV (sy : Bool) (l h a ho so he : Int) : Prop := (-1 ≤ so ∧ so < 60 ∧ 0 ≤ he ∧ he ≤ 1000000000) ∧ (if sy = true then ho = 0 ∨ (1 ≤ ho ∧ ho ≤ 60 ∧ VP l h a) else ho = 60)
instance (sy : Bool) (l h a ho so he : Int) : Decidable (SV sy l h a ho so he) := by unfold SV; exact inferInstance
theorem svalid_eq (k : Nat) (sy : Bool) (l h a ho so he : Int) : timesync_state_valid.f (k + 6) sy l h a ho so he = some (decide (SV sy l h a ho so he)) := by
  have hj : ∀ b, timesync_state_valid.j0 (k + 6) b sy l h a ho so he = some (!b && decide (if sy = true then ho = 0 ∨ (1 ≤ ho ∧ ho ≤ 60 ∧ VP l h a) else ho = 60)) := by
    intro b
    rw [show k + 6 = (k + 5) + 1 from rfl]
    simp only [timesync_state_valid.j0, timesync_state_root.f, bound_Valid.f, valid_eq]
    cases b <;> cases sy <;> simp
    · by_cases h1 : ho = 60 <;> simp [h1]
    · by_cases h1 : ho = 0
      · simp [h1]
      · by_cases h2 : 1 ≤ ho <;> by_cases h3 : ho ≤ 60 <;> by_cases h4 : VP l h a <;> simp [h1, h2, h3, h4]
  unfold timesync_state_valid.f
  by_cases h1 : so < -1
  · rw [if_pos h1, hj, decide_eq_false (show ¬ SV sy l h a ho so he from fun hh => by have := hh.1; omega)]; rfl
  · by_cases h2 : so ≥ 60
    · rw [if_neg h1, if_pos h2, hj, decide_eq_false (show ¬ SV sy l h a ho so he from fun hh => by have := hh.1; omega)]; rfl
    · by_cases h3 : he < 0
      · rw [if_neg h1, if_neg h2, if_pos h3, hj, decide_eq_false (show ¬ SV sy l h a ho so he from fun hh => by have := hh.1; omega)]; rfl
      · rw [if_neg h1, if_neg h2, if_neg h3, hj]
        by_cases h4 : he > 1000000000
        · rw [decide_eq_false (show ¬ SV sy l h a ho so he from fun hh => by have := hh.1; omega), decide_eq_true h4]; rfl
        · have h5 : (-1 ≤ so ∧ so < 60 ∧ 0 ≤ he ∧ he ≤ 1000000000) := by omega
          unfold SV
          rw [decide_eq_false h4]
          simp [h5]
/-- Is a hint taken? -/
def TK (sy : Bool) (ho so fr hh : Int) : Prop := ¬ (sy = true ∧ ho = 0) ∧ (sy = false ∨ hh < ho ∨ fr = so)
instance (sy : Bool) (ho so fr hh : Int) : Decidable (TK sy ho so fr hh) := by unfold TK; exact inferInstance
theorem takes_eq (sy : Bool) (l h a ho so he fr hh bnd asn loc : Int) : timesync_state_takes.f sy l h a ho so he fr hh bnd asn loc = some (decide (TK sy ho so fr hh)) := by
  unfold timesync_state_takes.f timesync_state_root.f TK
  cases sy
  · simp
  · by_cases h1 : ho = 0
    · simp [h1]
    · by_cases h2 : hh < ho <;> by_cases h3 : fr = so <;> simp [h1, h2, h3]
abbrev T8 := Bool × Int × Int × Int × Int × Int × Int × Int
/-- What Hear answers. -/
def HE (sy : Bool) (l h a ho so he fr hh bnd asn loc : Int) : T8 :=
  if SV sy l h a ho so he ∧ (HD bnd asn loc).2.2.2 = 0 ∧ (0 ≤ fr ∧ fr < 60) ∧ (0 ≤ hh ∧ hh < 60) then
    (if TK sy ho so fr hh then
      (if sy = true then
        (if (M l h a (HD bnd asn loc).1 (HD bnd asn loc).2.1 (HD bnd asn loc).2.2.1).2.2.2 = 0 then (true, (M l h a (HD bnd asn loc).1 (HD bnd asn loc).2.1 (HD bnd asn loc).2.2.1).1, (M l h a (HD bnd asn loc).1 (HD bnd asn loc).2.1 (HD bnd asn loc).2.2.1).2.1, (M l h a (HD bnd asn loc).1 (HD bnd asn loc).2.1 (HD bnd asn loc).2.2.1).2.2.1, hh + 1, fr, asn, 0)
         else (sy, l, h, a, ho, so, he, (M l h a (HD bnd asn loc).1 (HD bnd asn loc).2.1 (HD bnd asn loc).2.2.1).2.2.2))
       else (true, (HD bnd asn loc).1, (HD bnd asn loc).2.1, (HD bnd asn loc).2.2.1, hh + 1, fr, asn, 0))
     else (sy, l, h, a, ho, so, he, 0))
  else (sy, l, h, a, ho, so, he, 1)
theorem HD_err (bnd asn loc : Int) : (HD bnd asn loc).2.2.2 = 0 ∨ (HD bnd asn loc).2.2.2 = 1 := by unfold HD; split <;> simp
theorem Hear_eq (k : Nat) (sy : Bool) (l h a ho so he fr hh bnd asn loc : Int) : timesync_Hear.f (k + 6) sy l h a ho so he fr hh bnd asn loc = some (HE sy l h a ho so he fr hh bnd asn loc) := by
  unfold timesync_Hear.f HE
  rw [Heard_eq, svalid_eq, takes_eq]
  simp only [Option.bind_some, Meet_eq]
  by_cases h1 : SV sy l h a ho so he
  · rw [decide_eq_true h1, if_pos rfl]
    rcases HD_err bnd asn loc with h2 | h2
    · rw [if_neg (by omega)]
      by_cases c1 : fr < 0
      · rw [if_pos c1, if_neg (by omega)]
      · by_cases c2 : fr ≥ 60
        · rw [if_neg c1, if_pos c2, if_neg (by omega)]
        · by_cases c3 : hh < 0
          · rw [if_neg c1, if_neg c2, if_pos c3, if_neg (by omega)]
          · by_cases c4 : hh ≥ 60
            · rw [if_neg c1, if_neg c2, if_neg c3, if_pos c4, if_neg (by omega)]
            · rw [if_neg c1, if_neg c2, if_neg c3, if_neg c4, if_pos (show SV sy l h a ho so he ∧ (HD bnd asn loc).2.2.2 = 0 ∧ (0 ≤ fr ∧ fr < 60) ∧ (0 ≤ hh ∧ hh < 60) from ⟨h1, h2, by omega, by omega⟩), w64 (x := hh + 1) (by omega)]
              by_cases c5 : TK sy ho so fr hh
              · rw [decide_eq_true c5, if_pos c5]
                simp only [if_true]
                by_cases c6 : sy = true
                · rw [if_pos c6, if_pos c6]; split <;> rfl
                · rw [if_neg c6, if_neg c6]
              · rw [decide_eq_false c5, if_neg c5]; rfl
    · rw [if_pos h2, if_neg (by omega)]
  · rw [decide_eq_false h1, if_neg (show ¬ (SV sy l h a ho so he ∧ (HD bnd asn loc).2.2.2 = 0 ∧ (0 ≤ fr ∧ fr < 60) ∧ (0 ≤ hh ∧ hh < 60)) from fun q => h1 q.1)]; rfl
end Go.Proofs.Ytkbfhonoamgjgaa.P
end
section
/- The examples of layer 9 hold, and the forms of what Hear answers. Conditions: none. -/
namespace Go.Proofs.Ytkbfhonoamgjgaa.P
open Go.RowKit Go.Proofs.YtkbfhonoamgjgaaW.PrintWords Go.Proofs.YtkbfhonoamgjgaaW.PrintLast Go.Proofs.YtkbfhonoamgjgaaW.PrintMore
set_option linter.unusedVariables false
set_option linter.unusedSimpArgs false
theorem head10 : slotmeshlaw09_head.f 10 = some true := by kernel_rfl
/-- Hear's answer: unchanged, or taken. -/
theorem HE_form (sy : Bool) (l h a ho so he fr hh bnd asn loc : Int) :
    (∃ e, HE sy l h a ho so he fr hh bnd asn loc = (sy, l, h, a, ho, so, he, e))
    ∨ (SV sy l h a ho so he ∧ (HD bnd asn loc).2.2.2 = 0 ∧ (0 ≤ fr ∧ fr < 60) ∧ (0 ≤ hh ∧ hh < 60) ∧ TK sy ho so fr hh ∧
        ((sy = false ∧ HE sy l h a ho so he fr hh bnd asn loc = (true, (HD bnd asn loc).1, (HD bnd asn loc).2.1, (HD bnd asn loc).2.2.1, hh + 1, fr, asn, 0)) ∨
         (sy = true ∧ (M l h a (HD bnd asn loc).1 (HD bnd asn loc).2.1 (HD bnd asn loc).2.2.1).2.2.2 = 0 ∧ HE sy l h a ho so he fr hh bnd asn loc = (true, (M l h a (HD bnd asn loc).1 (HD bnd asn loc).2.1 (HD bnd asn loc).2.2.1).1, (M l h a (HD bnd asn loc).1 (HD bnd asn loc).2.1 (HD bnd asn loc).2.2.1).2.1, (M l h a (HD bnd asn loc).1 (HD bnd asn loc).2.1 (HD bnd asn loc).2.2.1).2.2.1, hh + 1, fr, asn, 0)))) := by
  unfold HE
  by_cases c1 : SV sy l h a ho so he ∧ (HD bnd asn loc).2.2.2 = 0 ∧ (0 ≤ fr ∧ fr < 60) ∧ (0 ≤ hh ∧ hh < 60)
  · rw [if_pos c1]
    by_cases c2 : TK sy ho so fr hh
    · rw [if_pos c2]
      cases sy
      · rw [if_neg (by decide)]
        exact .inr ⟨c1.1, c1.2.1, c1.2.2.1, c1.2.2.2, c2, .inl ⟨rfl, rfl⟩⟩
      · rw [if_pos rfl]
        by_cases c3 : (M l h a (HD bnd asn loc).1 (HD bnd asn loc).2.1 (HD bnd asn loc).2.2.1).2.2.2 = 0
        · rw [if_pos c3]
          exact .inr ⟨c1.1, c1.2.1, c1.2.2.1, c1.2.2.2, c2, .inr ⟨rfl, c3, rfl⟩⟩
        · rw [if_neg c3]; exact .inl ⟨_, rfl⟩
    · rw [if_neg c2]; exact .inl ⟨_, rfl⟩
  · rw [if_neg c1]; exact .inl ⟨_, rfl⟩
end Go.Proofs.Ytkbfhonoamgjgaa.P
end
section
/- Plain laws of the reference functions of layer 8. Conditions: none. -/
namespace Go.Proofs.Ytkbfhonoamgjgaa.P
open Go.RowKit Go.Proofs.YtkbfhonoamgjgaaW.PrintWords Go.Proofs.YtkbfhonoamgjgaaW.PrintLast Go.Proofs.YtkbfhonoamgjgaaW.PrintMore
set_option linter.unusedVariables false
set_option linter.unusedSimpArgs false
theorem rvalid_eq (l h a : Int) : slotmeshref08_Valid.f l h a = some (decide (VP l h a)) := by
  unfold slotmeshref08_Valid.f VP
  by_cases h1 : l ≥ -20000000000000 <;> by_cases h2 : l ≤ h <;> by_cases h3 : h ≤ 20000000000000 <;> by_cases h4 : a ≥ -2000000000 <;> by_cases h5 : a ≤ 20000000000000 <;> simp [h1, h2, h3, h4, h5] <;> omega
end Go.Proofs.Ytkbfhonoamgjgaa.P
end
section
/- Plain laws of the reference functions of layer 9. Conditions: none. -/
namespace Go.Proofs.Ytkbfhonoamgjgaa.P
open Go.RowKit Go.Proofs.YtkbfhonoamgjgaaW.PrintWords Go.Proofs.YtkbfhonoamgjgaaW.PrintLast Go.Proofs.YtkbfhonoamgjgaaW.PrintMore
set_option linter.unusedVariables false
set_option linter.unusedSimpArgs false
theorem rsvalid_eq (k : Nat) (sy : Bool) (l h a ho so he : Int) : slotmeshref09_Valid.f (k + 1) sy l h a ho so he = some (decide (SV sy l h a ho so he)) := by
  have hj : ∀ b, slotmeshref09_Valid.j0 (k + 1) b sy l h a ho so he = some (!b && decide (if sy = true then ho = 0 ∨ (1 ≤ ho ∧ ho ≤ 60 ∧ VP l h a) else ho = 60)) := by
    intro b
    simp only [slotmeshref09_Valid.j0, rvalid_eq]
    cases b <;> cases sy <;> simp
    · by_cases h1 : ho = 60 <;> simp [h1]
    · by_cases h1 : ho = 0
      · simp [h1]
      · by_cases h2 : 1 ≤ ho <;> by_cases h3 : ho ≤ 60 <;> by_cases h4 : VP l h a <;> simp [h1, h2, h3, h4]
  unfold slotmeshref09_Valid.f
  by_cases h1 : so < -1
  · rw [if_pos h1, hj, decide_eq_false (show ¬ SV sy l h a ho so he from fun hh => by have := hh.1; omega)]; rfl
  · by_cases h2 : so ≥ 60
    · rw [if_neg h1, if_pos h2, hj, decide_eq_false (show ¬ SV sy l h a ho so he from fun hh => by have := hh.1; omega)]; rfl
    · by_cases h3 : he < 0
      · rw [if_neg h1, if_neg h2, if_pos h3, hj, decide_eq_false (show ¬ SV sy l h a ho so he from fun hh => by have := hh.1; omega)]; rfl
      · rw [if_neg h1, if_neg h2, if_neg h3, hj]
        by_cases h4 : he > 1000000000
        · rw [decide_eq_false (show ¬ SV sy l h a ho so he from fun hh => by have := hh.1; omega), decide_eq_true h4]; rfl
        · have h5 : (-1 ≤ so ∧ so < 60 ∧ 0 ≤ he ∧ he ≤ 1000000000) := by omega
          unfold SV
          rw [decide_eq_false h4]
          simp [h5]
def HN (fr hh bnd asn loc : Int) : Prop := (HD bnd asn loc).2.2.2 = 0 ∧ (0 ≤ fr ∧ fr < 60) ∧ (0 ≤ hh ∧ hh < 60)
instance (fr hh bnd asn loc : Int) : Decidable (HN fr hh bnd asn loc) := by unfold HN; exact inferInstance
end Go.Proofs.Ytkbfhonoamgjgaa.P
end
section
/- The pure statement of TimesyncBetter. Conditions: none. -/
namespace Go.Proofs.Ytkbfhonoamgjgaa.P
open Go.RowKit Go.Proofs.YtkbfhonoamgjgaaW.PrintWords Go.Proofs.YtkbfhonoamgjgaaW.PrintLast Go.Proofs.YtkbfhonoamgjgaaW.PrintMore
set_option linter.unusedVariables false
set_option linter.unusedSimpArgs false
theorem M_ok {p q a r s b : Int} (h : (M p q a r s b).2.2.2 = 0) : VP p q a ∧ VP r s b ∧ VP (p - dl a b) (q + dl a b) (mx a b) ∧ VP (r - dl b a) (s + dl b a) (mx a b) ∧ M p q a r s b = (mx (p - dl a b) (r - dl b a), mn (q + dl a b) (s + dl b a), mx a b, 0) := by
  unfold M at h ⊢
  split at h
  · rename_i h1
    split at h
    · rename_i h2
      split at h
      · exact absurd h (by decide)
      · rename_i h3
        rw [if_pos h1, if_pos h2, if_neg h3]
        exact ⟨h1.1, h1.2, h2.1, h2.2, rfl⟩
    · exact absurd h (by decide)
  · exact absurd h (by decide)
/-- One round of the law's loop: the span (p, q, c) is one of the two that met at x2; e is how much it grew. -/
theorem better_step (k : Nat) (xs : List S23) (i : Int) (p q c e : Int) (sy : Bool) (l h a ho so he : Int) (zy : Bool) (x0 x1 x2 z3 z4 z5 HL HH A : Int)
    (hi : 0 ≤ i ∧ i < (xs.length : Int) ∧ i < 100) (hr : rd_T23 xs i = ⟨p, q, c⟩) (hv : VP p q c) (hx : c ≤ x2 ∧ x2 ≤ 20000000000000)
    (he1 : c = x2 → a = A → c = x2 ∧ e = MO 0) (he2 : c = x2 → a ≠ A → e = 0) (he3 : c ≠ x2 → e = MO (x2 - c))
    (hg : VP (p - e) (q + e) x2) (h0 : p - e ≤ x0) (h1 : x1 ≤ q + e) :
    slotmeshlaw09_TimesyncBetter.l0 ((k + 6) + 1) true xs (xs.length : Int) i sy l h a ho so he zy x0 x1 x2 z3 z4 z5 HL HH A = slotmeshlaw09_TimesyncBetter.l0 (k + 6) true xs (xs.length : Int) (i + 1) sy l h a ho so he zy x0 x1 x2 z3 z4 z5 HL HH A := by
  rw [slotmeshlaw09_TimesyncBetter.l0]
  rw [if_pos hi.2.1, if_pos hi.1, if_pos hi.2.1, hr, w64 (x := i + 1) (by omega)]
  simp only [Grow_eq, Option.bind_some]
  have gg : ∀ d, c ≤ d → d ≤ 20000000000000 → VP (p - MO (d - c)) (q + MO (d - c)) d → G p q c d = (p - MO (d - c), q + MO (d - c), d, 0) := by
    intro d g1 g2 g3; unfold G; rw [if_pos ⟨hv, g1, g2⟩, if_pos g3]
  by_cases c1 : c = x2
  · rw [if_pos c1]
    by_cases c2 : a = A
    · obtain ⟨_, e1⟩ := he1 c1 c2
      rw [if_pos c2]
      have e2 : MO (c - c) = e := by rw [e1]; congr 1; omega
      have g := gg c (by omega) (by omega) (by rw [e2, c1]; exact hg)
      rw [e2] at g
      rw [g]
      simp only [if_true]
      rw [if_neg (by omega), if_neg (by omega)]
    · have e1 := he2 c1 c2
      rw [if_neg c2, if_neg (by omega), if_neg (by omega)]
  · have e1 := he3 c1
    rw [if_neg c1]
    have g := gg x2 hx.1 hx.2 (by rw [← e1]; exact hg)
    rw [← e1] at g
    rw [g]
    simp only [if_true]
    rw [if_neg (by omega), if_neg (by omega)]
theorem TimesyncBetter_pure : ∀ (a0_0 : Bool) (a0_1 : Int) (a0_2 : Int) (a0_3 : Int) (a0_4 : Int) (a0_5 : Int) (a0_6 : Int) (a1_0 : Int) (a1_1 : Int) (a1_2 : Int) (a1_3 : Int) (a1_4 : Int), (Lit.int .i64 a0_1).wf = true → (Lit.int .i64 a0_2).wf = true → (Lit.int .i64 a0_3).wf = true → (Lit.int .i64 a0_4).wf = true → (Lit.int .i64 a0_5).wf = true → (Lit.int .i64 a0_6).wf = true → (Lit.int .i64 a1_0).wf = true → (Lit.int .i64 a1_1).wf = true → (Lit.int .i64 a1_2).wf = true → (Lit.int .i64 a1_3).wf = true → (Lit.int .i64 a1_4).wf = true → ∃ k, slotmeshlaw09_TimesyncBetter.f k a0_0 a0_1 a0_2 a0_3 a0_4 a0_5 a0_6 a1_0 a1_1 a1_2 a1_3 a1_4 = some true := by
  intro sy l h a ho so he fr hh bnd asn loc _ _ _ _ _ _ _ _ _ _ _
  refine ⟨10, ?_⟩
  unfold slotmeshlaw09_TimesyncBetter.f
  rw [head10, show (10 : Nat) = 9 + 1 from rfl, rsvalid_eq]
  simp only [Option.bind_some, slotmeshref09_Root.f]
  have stop : ∀ sy : Bool, slotmeshlaw09_TimesyncBetter.j0 (9 + 1) true true sy l h a ho so he fr hh bnd asn loc = some true := by
    intro sy; simp [slotmeshlaw09_TimesyncBetter.j0]
  have stop1 : ∀ b c d e f g i, slotmeshlaw09_TimesyncBetter.j1 (3 + 6) true true true l h a ho so he fr hh bnd asn loc b c d e f g i = some true := by
    intro b c d e f g i; rw [show 3 + 6 = 8 + 1 from rfl]; simp [slotmeshlaw09_TimesyncBetter.j1]
  by_cases g1 : SV sy l h a ho so he
  rotate_left
  · rw [decide_eq_false g1, if_neg (by decide)]; exact stop _
  rw [decide_eq_true g1, if_pos rfl]
  cases sy
  · rw [if_neg (by decide)]; exact stop _
  simp only [if_true, Option.bind_some]
  have main : ∀ b : Bool, b = true ∨ slotmeshlaw09_TimesyncBetter.j0 (9 + 1) true b true l h a ho so he fr hh bnd asn loc = some true := by
    intro b
    cases b
    · right
      simp only [slotmeshlaw09_TimesyncBetter.j0, Bool.false_eq_true, if_false]
      rw [show (9 : Nat) = 3 + 6 from rfl, Hear_eq]
      simp only [Option.bind_some]
      rcases HE_form true l h a ho so he fr hh bnd asn loc with ⟨e, he'⟩ | ⟨_, c2, _, _, _, hx⟩
      · rw [he']
        simp only [beq_self_eq_true, Bool.and_self]
        split <;> exact stop1 _ _ _ _ _ _ _
      · rcases hx with ⟨q, _⟩ | ⟨_, hm, e⟩
        · cases q
        rw [e]
        obtain ⟨v1, v2, v3, v4, em⟩ := M_ok hm
        rw [em]
        simp only [if_true]
        have hHD := Heard_eq 2 fr hh bnd asn loc
        rw [show 2 + 6 = (8 : Nat) from rfl] at hHD
        have main1 : ∀ d : Bool, d = true ∨ slotmeshlaw09_TimesyncBetter.j1 (8 + 1) true d true l h a ho so he fr hh bnd asn loc true (mx (l - dl a (HD bnd asn loc).2.2.1) ((HD bnd asn loc).1 - dl (HD bnd asn loc).2.2.1 a)) (mn (h + dl a (HD bnd asn loc).2.2.1) ((HD bnd asn loc).2.1 + dl (HD bnd asn loc).2.2.1 a)) (mx a (HD bnd asn loc).2.2.1) (hh + 1) fr asn = some true := by
          intro d
          cases d
          · right
            simp only [slotmeshlaw09_TimesyncBetter.j1, Bool.false_eq_true, if_false]
            rw [hHD]
            simp only [Option.bind_some]
            rw [if_pos c2]
            generalize (HD bnd asn loc).1 = HL at *
            generalize (HD bnd asn loc).2.1 = HH at *
            generalize (HD bnd asn loc).2.2.1 = A at *
            have hM : MO 0 = 1 := by decide
            have u1 := v1
            have u2 := v2
            unfold VP at u1 u2
            have m1 : a ≤ mx a A ∧ A ≤ mx a A ∧ mx a A ≤ 20000000000000 ∧ (mx a A = a ∨ mx a A = A) := by unfold mx; split <;> omega
            have n1 : ∀ x y : Int, x ≤ mx x y ∧ y ≤ mx x y := by intro x y; unfold mx; split <;> omega
            have n2 : ∀ x y : Int, mn x y ≤ x ∧ mn x y ≤ y := by intro x y; unfold mn; split <;> omega
            have d1 : ∀ x y : Int, x = y → dl x y = MO 0 := by intro x y q; unfold dl; rw [if_neg (by omega)]; congr 1; omega
            have d2 : ∀ x y : Int, y < x → dl x y = 0 := by intro x y q; unfold dl; rw [if_pos q]
            have d3 : ∀ x y : Int, x ≤ y → dl x y = MO (y - x) := by intro x y q; unfold dl; rw [if_neg (by omega)]
            rw [show (8 : Nat) = (1 + 6) + 1 from rfl]
            rw [better_step 1 [⟨l, h, a⟩, ⟨HL, HH, A⟩] 0 l h a (dl a A) _ _ _ _ _ _ _ _ _ _ _ _ _ _ _ _ _ (by simp) rfl v1 ⟨m1.1, m1.2.2.1⟩ (fun q1 q2 => ⟨q1, d1 _ _ q2⟩) (fun q1 q2 => d2 _ _ (by omega)) (fun q1 => by rw [show mx a A = A by omega]; exact d3 _ _ (by omega)) v3 (n1 _ _).1 (n2 _ _).1]
            rw [show 1 + 6 = (0 + 6) + 1 from rfl]
            rw [better_step 0 [⟨l, h, a⟩, ⟨HL, HH, A⟩] (0 + 1) HL HH A (dl A a) _ _ _ _ _ _ _ _ _ _ _ _ _ _ _ _ _ (by simp) rfl v2 ⟨m1.2.1, m1.2.2.1⟩ (fun q1 q2 => ⟨q1, d1 _ _ q2.symm⟩) (fun q1 q2 => d2 _ _ (by omega)) (fun q1 => by rw [show mx a A = a by omega]; exact d3 _ _ (by omega)) v4 (n1 _ _).2 (n2 _ _).2]
            rw [show 0 + 6 = 5 + 1 from rfl, slotmeshlaw09_TimesyncBetter.l0]
            rw [if_neg (by simp), if_pos rfl]
            simp
          · left; rfl
        refine Or.elim (main1 _) (fun q => ?_) (fun q => q)
        rw [q]; exact stop1 _ _ _ _ _ _ _
    · left; rfl
  refine Or.elim (main _) (fun q => ?_) (fun q => q)
  rw [q]; exact stop _
end Go.Proofs.Ytkbfhonoamgjgaa.P
end
section
/- The call of TimesyncBetter answers true, out of its pure statement. Conditions: none. -/
namespace Go.Proofs.Ytkbfhonoamgjgaa.P
open Go.RowKit
theorem TimesyncBetter_walk (a0_0 : Bool) (a0_1 : Int) (a0_2 : Int) (a0_3 : Int) (a0_4 : Int) (a0_5 : Int) (a0_6 : Int) (a1_0 : Int) (a1_1 : Int) (a1_2 : Int) (a1_3 : Int) (a1_4 : Int) (w : World) (w0_1 : (Lit.int .i64 a0_1).wf = true) (w0_2 : (Lit.int .i64 a0_2).wf = true) (w0_3 : (Lit.int .i64 a0_3).wf = true) (w0_4 : (Lit.int .i64 a0_4).wf = true) (w0_5 : (Lit.int .i64 a0_5).wf = true) (w0_6 : (Lit.int .i64 a0_6).wf = true) (w1_0 : (Lit.int .i64 a1_0).wf = true) (w1_1 : (Lit.int .i64 a1_1).wf = true) (w1_2 : (Lit.int .i64 a1_2).wf = true) (w1_3 : (Lit.int .i64 a1_3).wf = true) (w1_4 : (Lit.int .i64 a1_4).wf = true) :
    Calls Try.prog 6 #[.agg #[.bool a0_0, .int .i64 a0_1, .int .i64 a0_2, .int .i64 a0_3, .int .i64 a0_4, .int .i64 a0_5, .int .i64 a0_6], .agg #[.int .i64 a1_0, .int .i64 a1_1, .int .i64 a1_2, .int .i64 a1_3, .int .i64 a1_4]] w fun e w' => e = .returned (.bool true) ∧ Below w.heap.size w w' := by
  obtain ⟨k, h⟩ := TimesyncBetter_pure a0_0 a0_1 a0_2 a0_3 a0_4 a0_5 a0_6 a1_0 a1_1 a1_2 a1_3 a1_4 w0_1 w0_2 w0_3 w0_4 w0_5 w0_6 w1_0 w1_1 w1_2 w1_3 w1_4
  refine (slotmeshlaw09_TimesyncBetter.calls k a0_0 a0_1 a0_2 a0_3 a0_4 a0_5 a0_6 a1_0 a1_1 a1_2 a1_3 a1_4 true w h).mono ?_
  rintro e w' ⟨rfl, hd⟩
  exact ⟨rfl, hd⟩
end Go.Proofs.Ytkbfhonoamgjgaa.P
end
section
/- The given statement of TimesyncBetter: for every input it answers true, and the input reads as before. Conditions: none. -/
namespace Go.Proofs.Ytkbfhonoamgjgaa.timesyncBetter
open Go.ChangeShapes Go.WideShapes Go.ChangeAt Go.RowKit
set_option linter.unusedVariables false
set_option maxRecDepth 100000
theorem own : ownKnob Try.prog.godebug = none := by kernel_rfl
theorem laidOut : laidOutB Try.prog = true := by kernel_rfl
set_option maxRecDepth 100000 in
theorem lifted (os : Os) (started : os.Started) (H : Type) (enc : TypeId × Value → H) :
    ReturnsInHanded {} Try.checked os 6 .any (Rows.timesyncBetterSpec.pre6 enc Try.prog Try.f6 Rows.timesyncBetterRow.domain false) (Rows.timesyncBetterSpec.post enc Try.prog Try.f6 false true false false) := by
  refine returnsInHanded_of_change_sized (C := Try.checked) own started (by kernel_rfl) Try.func6
    (ChangeSpec.witness6 (enc := enc) (C := Try.checked) false ⟨#[], #[.agg #[.bool false, .int .i64 0, .int .i64 0, .int .i64 0, .int .i64 0, .int .i64 0, .int .i64 0], .agg #[.int .i64 0, .int .i64 0, .int .i64 0, .int .i64 0, .int .i64 0]], []⟩ 8 (by kernel_rfl) (by kernel_rfl) (by kernel_rfl) (by kernel_rfl)) ?_
  intro W base args ds gs before hval0 hW hcnd hsz0 _
  have hval : ∀ (j : Nat) t v, Try.f6.params[j]? = some t → args[j]? = some v → Value.okWide Try.prog W .any base t v := hval0
  have hW' := hW
  obtain ⟨p, q, hA0, hV, rfl, hfz, hnd⟩ := hW
  have hA : DataW.TrodAll enc Try.prog W 0 (fun _ => true) true Try.f6.params.toList args.toList ds p := hA0
  rw [Try.params6] at hA hval
  obtain ⟨v0, vs0, d0, ds0, p0, q0, hargs, rfl, rfl, h0, r0⟩ := trodAll_cons hA
  obtain ⟨v1, vs1, d1, ds1, p1, q1, rfl, rfl, rfl, h1, r1⟩ := trodAll_cons r0
  obtain ⟨rfl, rfl, rfl⟩ := trodAll_nil r1
  obtain rfl : args = #[v0, v1] := by cases args; simp_all
  obtain ⟨rfl, rfl⟩ := trodVars_none hV
  have lt0 : ∀ x ∈ p0, x.block < W.heap.size := by obtain ⟨m, hm⟩ := h0; exact DataW.trod_lt m _ _ _ hm
  obtain ⟨a0_0, a0_1, a0_2, a0_3, a0_4, a0_5, a0_6, rfl, w0_1, w0_2, w0_3, w0_4, w0_5, w0_6⟩ := open25 (hval 0 25 v0 rfl rfl) h0
  have lt1 : ∀ x ∈ p1, x.block < W.heap.size := by obtain ⟨m, hm⟩ := h1; exact DataW.trod_lt m _ _ _ hm
  obtain ⟨a1_0, a1_1, a1_2, a1_3, a1_4, rfl, w1_0, w1_1, w1_2, w1_3, w1_4⟩ := open27 (hval 1 27 v1 rfl rfl) h1
  clear hA0 hval0 hsz0
  refine (P.TimesyncBetter_walk a0_0 a0_1 a0_2 a0_3 a0_4 a0_5 a0_6 a1_0 a1_1 a1_2 a1_3 a1_4 W w0_1 w0_2 w0_3 w0_4 w0_5 w0_6 w1_0 w1_1 w1_2 w1_3 w1_4).mono fun e W' ⟨he, bel⟩ => ?_
  subst he
  exact ⟨_, rfl, _, _, _, [], _, [], hW', trodAll_mk1 (shut_bool Try.underlying4 _), (trodAll_cons_mk (Below.trod laidOut (by kernel_rfl) (of_decide_eq_true (by kernel_rfl)) h0 bel lt0) (trodAll_cons_mk (Below.trod laidOut (by kernel_rfl) (of_decide_eq_true (by kernel_rfl)) h1 bel lt1) trodAll_mk0)), rfl, bel.frame _, fun h => by cases h⟩
theorem over : Rows.timesyncBetterRow.holds Try.pinned (OpenSpec.ofChange Rows.timesyncBetterSpec) :=
  OpenClaim.holds_of_wide 6 Try.f6 rfl rfl rfl rfl rfl rfl rfl ⟨rfl, rfl, rfl, rfl, rfl⟩ rfl rfl rfl rfl rfl (by kernel_rfl) Try.func6 (by kernel_rfl)
    (of_decide_eq_true (by kernel_rfl)) (by unfold Func.isWrapper; first | (rw [if_pos (by decide +kernel)]; kernel_rfl) | (rw [if_neg (by decide +kernel)]; exact ⟨rfl, rfl⟩))
    (fun os started H enc _ => lifted os started H enc)
theorem proved : Rows.TimesyncBetterSaid := over
end Go.Proofs.Ytkbfhonoamgjgaa.timesyncBetter
namespace Go.Proofs.Ytkbfhonoamgjgaa
theorem timesyncBetter_holds : Rows.TimesyncBetterSaid := timesyncBetter.proved
#print axioms timesyncBetter_holds
end Go.Proofs.Ytkbfhonoamgjgaa
end
