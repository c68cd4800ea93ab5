/- A claim's own texts, laid together by wip/zip.py without what the claim does not use. Conditions: none. -/
import Derived.Test.YtkbfhonoamgjgaaZupx11
import Derived.Test.YtkbfhonoamgjgaaZupx13
import Derived.Test.YtkbfhonoamgjgaaZupx14
import Derived.Test.YtkbfhonoamgjgaaZupx5
import Derived.Test.YtkbfhonoamgjgaaZupx12
import Derived.Test.YtkbfhonoamgjgaaZupx15
import Derived.Test.YtkbfhonoamgjgaaZupx17
import Derived.Test.YtkbfhonoamgjgaaZupx3
import Derived.Test.YtkbfhonoamgjgaaZupx18
import Derived.Test.YtkbfhonoamgjgaaZupx0
import Derived.Test.YtkbfhonoamgjgaaZupx21
import Derived.Test.YtkbfhonoamgjgaaZupx19
import Derived.Test.YtkbfhonoamgjgaaZupx28
import Derived.Test.YtkbfhonoamgjgaaZupx20
import Derived.Test.YtkbfhonoamgjgaaZupx22
import Derived.Test.YtkbfhonoamgjgaaZupx23
import Derived.Test.YtkbfhonoamgjgaaZupx24
import Derived.Test.YtkbfhonoamgjgaaZupx43
import Derived.Test.YtkbfhonoamgjgaaZupx44
import Derived.Test.YtkbfhonoamgjgaaZupx45
import Derived.Test.YtkbfhonoamgjgaaZupx46
import Derived.Test.YtkbfhonoamgjgaaRows
import Derived.Test.YtkbfhonoamgjgaaZuopen
import Derived.WalkKit
import Derived.ProofKit
import Derived.OpenShut
import Derived.ShutString
import Derived.ChangeOld
import Derived.Below
import Derived.SizedLaws
import Derived.Carry
section
/- Plain laws of what the printed functions compute. Conditions: none. -/
namespace Go.Proofs.Ytkbfhonoamgjgaa.P
open Go.RowKit Go.Proofs.YtkbfhonoamgjgaaW.PrintWords Go.Proofs.YtkbfhonoamgjgaaW.PrintLast Go.Proofs.YtkbfhonoamgjgaaW.PrintMore
set_option linter.unusedVariables false
set_option linter.unusedSimpArgs false
theorem wf64 {a : Int} (h : (Lit.int .i64 a).wf = true) : -9223372036854775808 ≤ a ∧ a ≤ 9223372036854775807 := by
  simpa [Lit.wf, IntKind.min, IntKind.max, IntKind.bits, IntKind.signed] using h
theorem w64 {x : Int} (h : -9223372036854775808 ≤ x ∧ x ≤ 9223372036854775807) : wrap64 x = x := by
  unfold wrap64
  omega
theorem asc3 (k : Nat) (a b c : Int) : bound_ascending.f (k + 4) [a, b, c] = some (decide (a ≤ b ∧ b ≤ c)) := by
  by_cases h1 : b < a <;> by_cases h2 : c < b <;> simp [bound_ascending.f, bound_ascending.l0, wrap64, rd, h1, h2] <;> omega
theorem asc4 (k : Nat) (a b c d : Int) : bound_ascending.f (k + 5) [a, b, c, d] = some (decide (a ≤ b ∧ b ≤ c ∧ c ≤ d)) := by
  by_cases h1 : b < a <;> by_cases h2 : c < b <;> by_cases h3 : d < c <;> simp [bound_ascending.f, bound_ascending.l0, wrap64, rd, h1, h2, h3] <;> omega
/-- A valid span. -/
def VP (l h a : Int) : Prop := -20000000000000 ≤ l ∧ l ≤ h ∧ h ≤ 20000000000000 ∧ -2000000000 ≤ a ∧ a ≤ 20000000000000
instance (l h a : Int) : Decidable (VP l h a) := by unfold VP; exact inferInstance
/-- By how much a span grows after e microseconds. -/
def MO (e : Int) : Int := (51 * e + 999999) / 1000000 + 1
theorem valid_eq (k : Nat) (l h a : Int) : bound_span_valid.f (k + 5) l h a = some (decide (VP l h a)) := by
  unfold bound_span_valid.f VP
  rw [asc4, asc3 (k + 1)]
  by_cases h1 : (-20000000000000 ≤ l ∧ l ≤ h ∧ h ≤ 20000000000000) <;> by_cases h2 : (-2000000000 ≤ a ∧ a ≤ 20000000000000) <;> simp [h1, h2] <;> omega
def G (l h a now : Int) : Int × Int × Int × Int :=
  if VP l h a ∧ a ≤ now ∧ now ≤ 20000000000000 then (if VP (l - MO (now - a)) (h + MO (now - a)) now then (l - MO (now - a), h + MO (now - a), now, 0) else (0, 0, 0, 3)) else (0, 0, 0, 1)
theorem more_eq {e : Int} (h0 : 0 ≤ e) (h1 : e ≤ 40000000000000) : wrap64 ((wrap64 (Int.tdiv (wrap64 ((wrap64 ((wrap64 (51 * (wrap64 e))) + 1000000)) - 1)) 1000000)) + 1) = MO e := by
  rw [w64 (x := e) (by omega), w64 (x := 51 * e) (by omega), w64 (x := 51 * e + 1000000) (by omega), w64 (x := 51 * e + 1000000 - 1) (by omega), Int.tdiv_eq_ediv_of_nonneg (by omega), w64 (x := (51 * e + 1000000 - 1) / 1000000) (by omega), w64 (by omega)]
  unfold MO
  omega
theorem grow_eq (k : Nat) (l h a now : Int) : bound_span_grow.f (k + 6) l h a now = some (G l h a now) := by
  unfold bound_span_grow.f G
  rw [show k + 6 = (k + 1) + 5 from rfl, valid_eq, show k + 1 + 5 = (k + 2) + 4 from rfl, asc3]
  by_cases h1 : VP l h a
  · by_cases h2 : a ≤ now ∧ now ≤ 20000000000000
    · have h3 := h1
      unfold VP at h3
      simp only [h1, h2, Option.bind_some, decide_true, if_true, and_self, Bool.not_true, bound_span_grow.j0, Bool.false_eq_true, if_false]
      rw [more_eq (by omega) (by omega)]
      have hm : 0 ≤ MO (now - a) ∧ MO (now - a) ≤ 3000000000 := by unfold MO; omega
      rw [w64 (x := l - MO (now - a)) (by omega), w64 (x := h + MO (now - a)) (by omega), show k + 5 = k + 5 from rfl, valid_eq]
      by_cases h4 : VP (l - MO (now - a)) (h + MO (now - a)) now <;> simp [h4]
    · simp [h1, h2, bound_span_grow.j0]
  · simp [h1, bound_span_grow.j0]
/-- By how much a span at the time a grows when it meets one at the time b. -/
def dl (a b : Int) : Int := if b < a then 0 else MO (b - a)
def M (a0 a1 a2 b0 b1 b2 : Int) : Int × Int × Int × Int :=
  if VP a0 a1 a2 ∧ VP b0 b1 b2 then
    (if VP (a0 - dl a2 b2) (a1 + dl a2 b2) (mx a2 b2) ∧ VP (b0 - dl b2 a2) (b1 + dl b2 a2) (mx a2 b2) then
      (if mx (a0 - dl a2 b2) (b0 - dl b2 a2) > mn (a1 + dl a2 b2) (b1 + dl b2 a2) then (0, 0, 0, 16) else (mx (a0 - dl a2 b2) (b0 - dl b2 a2), mn (a1 + dl a2 b2) (b1 + dl b2 a2), mx a2 b2, 0))
     else (0, 0, 0, 3))
  else (0, 0, 0, 1)
theorem mx_comm' (a b : Int) : mx a b = mx b a := by unfold mx; split <;> split <;> omega
theorem mn_comm' (a b : Int) : mn a b = mn b a := by unfold mn; split <;> split <;> omega
theorem M_comm (a0 a1 a2 b0 b1 b2 : Int) : M a0 a1 a2 b0 b1 b2 = M b0 b1 b2 a0 a1 a2 := by
  unfold M
  rw [mx_comm' a2 b2, mx_comm' (a0 - dl a2 b2), mn_comm' (a1 + dl a2 b2)]
  by_cases h1 : VP a0 a1 a2 <;> by_cases h2 : VP b0 b1 b2 <;> by_cases h3 : VP (a0 - dl a2 b2) (a1 + dl a2 b2) (mx b2 a2) <;> by_cases h4 : VP (b0 - dl b2 a2) (b1 + dl b2 a2) (mx b2 a2) <;> simp [h1, h2, h3, h4]
theorem core_eq (k : Nat) (x0 x1 x2 y0 y1 y2 : Int) (hx : VP x0 x1 x2) (hy : VP y0 y1 y2) (h : x2 ≤ y2) : bound_Meet.core (k + 6) x0 x1 x2 y0 y1 y2 = some (M x0 x1 x2 y0 y1 y2) := by
  unfold bound_Meet.core
  rw [grow_eq, grow_eq]
  have hx' := hx
  have hy' := hy
  unfold VP at hx' hy'
  have hm : mx x2 y2 = y2 := by unfold mx; split <;> omega
  have hd : dl x2 y2 = MO (y2 - x2) := by unfold dl; rw [if_neg (by omega)]
  have hG : G x0 x1 x2 y2 = if VP (x0 - MO (y2 - x2)) (x1 + MO (y2 - x2)) y2 then (x0 - MO (y2 - x2), x1 + MO (y2 - x2), y2, 0) else (0, 0, 0, 3) := by unfold G; rw [if_pos ⟨hx, h, by omega⟩]
  by_cases h2 : x2 = y2
  · subst h2
    have hd2 : dl x2 x2 = MO 0 := by unfold dl; rw [if_neg (by omega), Int.sub_self]
    have hG2 : G y0 y1 x2 x2 = if VP (y0 - MO 0) (y1 + MO 0) x2 then (y0 - MO 0, y1 + MO 0, x2, 0) else (0, 0, 0, 3) := by unfold G; rw [if_pos ⟨hy, by omega, by omega⟩, Int.sub_self]
    rw [Int.sub_self] at hG
    unfold M
    rw [if_pos ⟨hx, hy⟩, hm, hd2, hG, hG2]
    by_cases h1 : VP (x0 - MO 0) (x1 + MO 0) x2
    · by_cases h3 : VP (y0 - MO 0) (y1 + MO 0) x2
      · rw [if_pos h1, if_pos h3, if_pos ⟨h1, h3⟩]
        simp only [Option.bind_some, if_true, bound_Meet.fin]
        split <;> rfl
      · rw [if_pos h1, if_neg h3, if_neg (fun h => h3 h.2)]
        simp [bound_Meet.fin]
    · rw [if_neg h1, if_neg (show ¬ (VP (x0 - MO 0) (x1 + MO 0) x2 ∧ VP (y0 - MO 0) (y1 + MO 0) x2) from fun h => h1 h.1)]
      simp [bound_Meet.fin]
  · have hd2 : dl y2 x2 = 0 := by unfold dl; rw [if_pos (by omega)]
    unfold M
    rw [if_pos ⟨hx, hy⟩, hm, hd, hd2, hG]
    have hy2 : VP (y0 - 0) (y1 + 0) y2 := by rw [Int.sub_zero, Int.add_zero]; exact hy
    by_cases h1 : VP (x0 - MO (y2 - x2)) (x1 + MO (y2 - x2)) y2
    · rw [if_pos h1, if_pos ⟨h1, hy2⟩, Int.sub_zero, Int.add_zero]
      simp only [Option.bind_some, if_neg h2, if_true, bound_Meet.fin]
      split <;> rfl
    · rw [if_neg h1, if_neg (fun h => h1 h.1)]
      simp [bound_Meet.fin, h2]
theorem Meet_eq (k : Nat) (a0 a1 a2 b0 b1 b2 : Int) : bound_Meet.f (k + 6) a0 a1 a2 b0 b1 b2 = some (M a0 a1 a2 b0 b1 b2) := by
  unfold bound_Meet.f
  rw [show k + 6 = (k + 1) + 5 from rfl, valid_eq, valid_eq]
  by_cases h1 : VP a0 a1 a2
  · by_cases h2 : VP b0 b1 b2
    · simp only [h1, h2, Option.bind_some, decide_true, if_true]
      by_cases h3 : a2 > b2
      · rw [if_pos h3, show k + 1 + 5 = k + 6 from rfl, core_eq k b0 b1 b2 a0 a1 a2 h2 h1 (by omega), M_comm]
      · rw [if_neg h3, show k + 1 + 5 = k + 6 from rfl, core_eq k a0 a1 a2 b0 b1 b2 h1 h2 (by omega)]
    · simp [h1, h2, M]
  · simp [h1, M]
def HD (bnd asn loc : Int) : Int × Int × Int × Int :=
  if (0 ≤ asn ∧ asn ≤ 1000000000) ∧ (0 ≤ bnd ∧ bnd ≤ 2000) ∧ (-2000000000 ≤ loc ∧ loc ≤ 20000000000000) then (asn * 10000 - loc - bnd, asn * 10000 - loc + bnd, loc, 0) else (0, 0, 0, 1)
theorem Heard_eq (k : Nat) (fr ho bnd asn loc : Int) : bound_Heard.f (k + 6) fr ho bnd asn loc = some (HD bnd asn loc) := by
  unfold bound_Heard.f HD
  rw [show k + 6 = (k + 2) + 4 from rfl, asc3, asc3, asc3]
  by_cases h1 : (0 ≤ asn ∧ asn ≤ 1000000000)
  · by_cases h2 : (0 ≤ bnd ∧ bnd ≤ 2000)
    · by_cases h3 : (-2000000000 ≤ loc ∧ loc ≤ 20000000000000)
      · simp only [h1, h2, h3, and_self, decide_true, Option.bind_some, if_true]
        rw [w64 (x := asn * 10000) (by omega), w64 (x := asn * 10000 - loc) (by omega), w64 (by omega), w64 (by omega)]
      · simp [h1, h2, h3]
    · simp [h1, h2]
  · simp [h1]
end Go.Proofs.Ytkbfhonoamgjgaa.P
end
section
/- Plain laws of the functions of package timesync. Conditions: none. -/
namespace Go.Proofs.Ytkbfhonoamgjgaa.P
open Go.RowKit Go.Proofs.YtkbfhonoamgjgaaW.PrintWords Go.Proofs.YtkbfhonoamgjgaaW.PrintLast Go.Proofs.YtkbfhonoamgjgaaW.PrintMore
set_option linter.unusedVariables false
set_option linter.unusedSimpArgs false
/-- A valid state. -/
def SV (sy : Bool) (l h a ho so he : Int) : Prop := (-1 ≤ so ∧ so < 60 ∧ 0 ≤ he ∧ he ≤ 1000000000) ∧ (if sy = true then ho = 0 ∨ (1 ≤ ho ∧ ho ≤ 60 ∧ VP l h a) else ho = 60)
instance (sy : Bool) (l h a ho so he : Int) : Decidable (SV sy l h a ho so he) := by unfold SV; exact inferInstance
theorem svalid_eq (k : Nat) (sy : Bool) (l h a ho so he : Int) : timesync_state_valid.f (k + 6) sy l h a ho so he = some (decide (SV sy l h a ho so he)) := by
  have hj : ∀ b, timesync_state_valid.j0 (k + 6) b sy l h a ho so he = some (!b && decide (if sy = true then ho = 0 ∨ (1 ≤ ho ∧ ho ≤ 60 ∧ VP l h a) else ho = 60)) := by
    intro b
    rw [show k + 6 = (k + 5) + 1 from rfl]
    simp only [timesync_state_valid.j0, timesync_state_root.f, bound_Valid.f, valid_eq]
    cases b <;> cases sy <;> simp
    · by_cases h1 : ho = 60 <;> simp [h1]
    · by_cases h1 : ho = 0
      · simp [h1]
      · by_cases h2 : 1 ≤ ho <;> by_cases h3 : ho ≤ 60 <;> by_cases h4 : VP l h a <;> simp [h1, h2, h3, h4]
  unfold timesync_state_valid.f
  by_cases h1 : so < -1
  · rw [if_pos h1, hj, decide_eq_false (show ¬ SV sy l h a ho so he from fun hh => by have := hh.1; omega)]; rfl
  · by_cases h2 : so ≥ 60
    · rw [if_neg h1, if_pos h2, hj, decide_eq_false (show ¬ SV sy l h a ho so he from fun hh => by have := hh.1; omega)]; rfl
    · by_cases h3 : he < 0
      · rw [if_neg h1, if_neg h2, if_pos h3, hj, decide_eq_false (show ¬ SV sy l h a ho so he from fun hh => by have := hh.1; omega)]; rfl
      · rw [if_neg h1, if_neg h2, if_neg h3, hj]
        by_cases h4 : he > 1000000000
        · rw [decide_eq_false (show ¬ SV sy l h a ho so he from fun hh => by have := hh.1; omega), decide_eq_true h4]; rfl
        · have h5 : (-1 ≤ so ∧ so < 60 ∧ 0 ≤ he ∧ he ≤ 1000000000) := by omega
          unfold SV
          rw [decide_eq_false h4]
          simp [h5]
/-- Is a hint taken? -/
def TK (sy : Bool) (ho so fr hh : Int) : Prop := ¬ (sy = true ∧ ho = 0) ∧ (sy = false ∨ hh < ho ∨ fr = so)
instance (sy : Bool) (ho so fr hh : Int) : Decidable (TK sy ho so fr hh) := by unfold TK; exact inferInstance
theorem takes_eq (sy : Bool) (l h a ho so he fr hh bnd asn loc : Int) : timesync_state_takes.f sy l h a ho so he fr hh bnd asn loc = some (decide (TK sy ho so fr hh)) := by
  unfold timesync_state_takes.f timesync_state_root.f TK
  cases sy
  · simp
  · by_cases h1 : ho = 0
    · simp [h1]
    · by_cases h2 : hh < ho <;> by_cases h3 : fr = so <;> simp [h1, h2, h3]
abbrev T8 := Bool × Int × Int × Int × Int × Int × Int × Int
/-- What Hear answers. -/
def HE (sy : Bool) (l h a ho so he fr hh bnd asn loc : Int) : T8 :=
  if SV sy l h a ho so he ∧ (HD bnd asn loc).2.2.2 = 0 ∧ (0 ≤ fr ∧ fr < 60) ∧ (0 ≤ hh ∧ hh < 60) then
    (if TK sy ho so fr hh then
      (if sy = true then
        (if (M l h a (HD bnd asn loc).1 (HD bnd asn loc).2.1 (HD bnd asn loc).2.2.1).2.2.2 = 0 then (true, (M l h a (HD bnd asn loc).1 (HD bnd asn loc).2.1 (HD bnd asn loc).2.2.1).1, (M l h a (HD bnd asn loc).1 (HD bnd asn loc).2.1 (HD bnd asn loc).2.2.1).2.1, (M l h a (HD bnd asn loc).1 (HD bnd asn loc).2.1 (HD bnd asn loc).2.2.1).2.2.1, hh + 1, fr, asn, 0)
         else (sy, l, h, a, ho, so, he, (M l h a (HD bnd asn loc).1 (HD bnd asn loc).2.1 (HD bnd asn loc).2.2.1).2.2.2))
       else (true, (HD bnd asn loc).1, (HD bnd asn loc).2.1, (HD bnd asn loc).2.2.1, hh + 1, fr, asn, 0))
     else (sy, l, h, a, ho, so, he, 0))
  else (sy, l, h, a, ho, so, he, 1)
theorem HD_err (bnd asn loc : Int) : (HD bnd asn loc).2.2.2 = 0 ∨ (HD bnd asn loc).2.2.2 = 1 := by unfold HD; split <;> simp
theorem Hear_eq (k : Nat) (sy : Bool) (l h a ho so he fr hh bnd asn loc : Int) : timesync_Hear.f (k + 6) sy l h a ho so he fr hh bnd asn loc = some (HE sy l h a ho so he fr hh bnd asn loc) := by
  unfold timesync_Hear.f HE
  rw [Heard_eq, svalid_eq, takes_eq]
  simp only [Option.bind_some, Meet_eq]
  by_cases h1 : SV sy l h a ho so he
  · rw [decide_eq_true h1, if_pos rfl]
    rcases HD_err bnd asn loc with h2 | h2
    · rw [if_neg (by omega)]
      by_cases c1 : fr < 0
      · rw [if_pos c1, if_neg (by omega)]
      · by_cases c2 : fr ≥ 60
        · rw [if_neg c1, if_pos c2, if_neg (by omega)]
        · by_cases c3 : hh < 0
          · rw [if_neg c1, if_neg c2, if_pos c3, if_neg (by omega)]
          · by_cases c4 : hh ≥ 60
            · rw [if_neg c1, if_neg c2, if_neg c3, if_pos c4, if_neg (by omega)]
            · rw [if_neg c1, if_neg c2, if_neg c3, if_neg c4, if_pos (show SV sy l h a ho so he ∧ (HD bnd asn loc).2.2.2 = 0 ∧ (0 ≤ fr ∧ fr < 60) ∧ (0 ≤ hh ∧ hh < 60) from ⟨h1, h2, by omega, by omega⟩), w64 (x := hh + 1) (by omega)]
              by_cases c5 : TK sy ho so fr hh
              · rw [decide_eq_true c5, if_pos c5]
                simp only [if_true]
                by_cases c6 : sy = true
                · rw [if_pos c6, if_pos c6]; split <;> rfl
                · rw [if_neg c6, if_neg c6]
              · rw [decide_eq_false c5, if_neg c5]; rfl
    · rw [if_pos h2, if_neg (by omega)]
  · rw [decide_eq_false h1, if_neg (show ¬ (SV sy l h a ho so he ∧ (HD bnd asn loc).2.2.2 = 0 ∧ (0 ≤ fr ∧ fr < 60) ∧ (0 ≤ hh ∧ hh < 60)) from fun q => h1 q.1)]; rfl
end Go.Proofs.Ytkbfhonoamgjgaa.P
end
section
/- The examples of layer 9 hold, and the forms of what Hear answers. Conditions: none. -/
namespace Go.Proofs.Ytkbfhonoamgjgaa.P
open Go.RowKit Go.Proofs.YtkbfhonoamgjgaaW.PrintWords Go.Proofs.YtkbfhonoamgjgaaW.PrintLast Go.Proofs.YtkbfhonoamgjgaaW.PrintMore
set_option linter.unusedVariables false
set_option linter.unusedSimpArgs false
theorem head10 : slotmeshlaw09_head.f 10 = some true := by kernel_rfl
end Go.Proofs.Ytkbfhonoamgjgaa.P
end
section
/- Plain laws of the reference functions of layer 8. Conditions: none. -/
namespace Go.Proofs.Ytkbfhonoamgjgaa.P
open Go.RowKit Go.Proofs.YtkbfhonoamgjgaaW.PrintWords Go.Proofs.YtkbfhonoamgjgaaW.PrintLast Go.Proofs.YtkbfhonoamgjgaaW.PrintMore
set_option linter.unusedVariables false
set_option linter.unusedSimpArgs false
theorem rvalid_eq (l h a : Int) : slotmeshref08_Valid.f l h a = some (decide (VP l h a)) := by
  unfold slotmeshref08_Valid.f VP
  by_cases h1 : l ≥ -20000000000000 <;> by_cases h2 : l ≤ h <;> by_cases h3 : h ≤ 20000000000000 <;> by_cases h4 : a ≥ -2000000000 <;> by_cases h5 : a ≤ 20000000000000 <;> simp [h1, h2, h3, h4, h5] <;> omega
end Go.Proofs.Ytkbfhonoamgjgaa.P
end
section
/- Plain laws of the reference functions of layer 9. Conditions: none. -/
namespace Go.Proofs.Ytkbfhonoamgjgaa.P
open Go.RowKit Go.Proofs.YtkbfhonoamgjgaaW.PrintWords Go.Proofs.YtkbfhonoamgjgaaW.PrintLast Go.Proofs.YtkbfhonoamgjgaaW.PrintMore
set_option linter.unusedVariables false
set_option linter.unusedSimpArgs false
theorem rsvalid_eq (k : Nat) (sy : Bool) (l h a ho so he : Int) : slotmeshref09_Valid.f (k + 1) sy l h a ho so he = some (decide (SV sy l h a ho so he)) := by
  have hj : ∀ b, slotmeshref09_Valid.j0 (k + 1) b sy l h a ho so he = some (!b && decide (if sy = true then ho = 0 ∨ (1 ≤ ho ∧ ho ≤ 60 ∧ VP l h a) else ho = 60)) := by
    intro b
    simp only [slotmeshref09_Valid.j0, rvalid_eq]
    cases b <;> cases sy <;> simp
    · by_cases h1 : ho = 60 <;> simp [h1]
    · by_cases h1 : ho = 0
      · simp [h1]
      · by_cases h2 : 1 ≤ ho <;> by_cases h3 : ho ≤ 60 <;> by_cases h4 : VP l h a <;> simp [h1, h2, h3, h4]
  unfold slotmeshref09_Valid.f
  by_cases h1 : so < -1
  · rw [if_pos h1, hj, decide_eq_false (show ¬ SV sy l h a ho so he from fun hh => by have := hh.1; omega)]; rfl
  · by_cases h2 : so ≥ 60
    · rw [if_neg h1, if_pos h2, hj, decide_eq_false (show ¬ SV sy l h a ho so he from fun hh => by have := hh.1; omega)]; rfl
    · by_cases h3 : he < 0
      · rw [if_neg h1, if_neg h2, if_pos h3, hj, decide_eq_false (show ¬ SV sy l h a ho so he from fun hh => by have := hh.1; omega)]; rfl
      · rw [if_neg h1, if_neg h2, if_neg h3, hj]
        by_cases h4 : he > 1000000000
        · rw [decide_eq_false (show ¬ SV sy l h a ho so he from fun hh => by have := hh.1; omega), decide_eq_true h4]; rfl
        · have h5 : (-1 ≤ so ∧ so < 60 ∧ 0 ≤ he ∧ he ≤ 1000000000) := by omega
          unfold SV
          rw [decide_eq_false h4]
          simp [h5]
theorem rtakes_eq (sy : Bool) (l h a ho so he fr hh bnd asn loc : Int) : slotmeshref09_Takes.f sy l h a ho so he fr hh bnd asn loc = some (decide (TK sy ho so fr hh)) := by
  unfold slotmeshref09_Takes.f slotmeshref09_Root.f TK
  cases sy
  · simp
  · by_cases h1 : ho = 0
    · simp [h1]
    · by_cases h2 : hh < ho <;> by_cases h3 : fr = so <;> simp [h1, h2, h3]
def HN (fr hh bnd asn loc : Int) : Prop := (HD bnd asn loc).2.2.2 = 0 ∧ (0 ≤ fr ∧ fr < 60) ∧ (0 ≤ hh ∧ hh < 60)
instance (fr hh bnd asn loc : Int) : Decidable (HN fr hh bnd asn loc) := by unfold HN; exact inferInstance
theorem rhint_eq (fr hh bnd asn loc : Int) : slotmeshref09_Hint.f fr hh bnd asn loc = some (decide (HN fr hh bnd asn loc)) := by
  have h1 : slotmeshref08_Hint.f fr hh bnd asn loc = some (decide ((0 ≤ asn ∧ asn ≤ 1000000000) ∧ (0 ≤ bnd ∧ bnd ≤ 2000) ∧ (-2000000000 ≤ loc ∧ loc ≤ 20000000000000))) := by
    unfold slotmeshref08_Hint.f
    by_cases q1 : asn ≥ 0 <;> by_cases q2 : asn ≤ 1000000000 <;> by_cases q3 : bnd ≥ 0 <;> by_cases q4 : bnd ≤ 2000 <;> by_cases q5 : loc ≥ -2000000000 <;> simp [q1, q2, q3, q4, q5] <;> omega
  have hz : (HD bnd asn loc).2.2.2 = 0 ↔ (0 ≤ asn ∧ asn ≤ 1000000000) ∧ (0 ≤ bnd ∧ bnd ≤ 2000) ∧ (-2000000000 ≤ loc ∧ loc ≤ 20000000000000) := by
    unfold HD; split <;> simp_all
  unfold slotmeshref09_Hint.f
  rw [h1]
  by_cases hn : HN fr hh bnd asn loc
  · have h3 := hn
    unfold HN at h3
    have h2 := hz.1 h3.1
    rw [decide_eq_true hn, decide_eq_true h2]
    simp only [Option.bind_some, if_true]
    rw [if_pos (by omega), if_pos (by omega), if_pos (by omega), decide_eq_true (by omega)]
  · rw [decide_eq_false hn]
    by_cases h2 : (0 ≤ asn ∧ asn ≤ 1000000000) ∧ (0 ≤ bnd ∧ bnd ≤ 2000) ∧ (-2000000000 ≤ loc ∧ loc ≤ 20000000000000)
    · rw [decide_eq_true h2]
      have h3 : ¬ ((0 ≤ fr ∧ fr < 60) ∧ (0 ≤ hh ∧ hh < 60)) := fun q => hn ⟨hz.2 h2, q.1, q.2⟩
      by_cases q1 : fr ≥ 0 <;> by_cases q2 : fr < 60 <;> by_cases q3 : hh ≥ 0 <;> simp [q1, q2, q3] <;> omega
    · rw [decide_eq_false h2]; rfl
end Go.Proofs.Ytkbfhonoamgjgaa.P
end
section
/- Plain laws of what a clock shows. Conditions: none. -/
namespace Go.Proofs.Ytkbfhonoamgjgaa.P
open Go.RowKit Go.Proofs.YtkbfhonoamgjgaaW.PrintWords Go.Proofs.YtkbfhonoamgjgaaW.PrintLast Go.Proofs.YtkbfhonoamgjgaaW.PrintMore
set_option linter.unusedVariables false
set_option linter.unusedSimpArgs false
theorem mul_bd {d t : Int} (h1 : -50 ≤ d) (h2 : d ≤ 50) (ht : 0 ≤ t) : -50 * t ≤ d * t ∧ d * t ≤ 50 * t :=
  ⟨Int.mul_le_mul_of_nonneg_right h1 ht, Int.mul_le_mul_of_nonneg_right h2 ht⟩
theorem mul_df {d x y : Int} (h1 : -50 ≤ d) (h2 : d ≤ 50) (h : x ≤ y) : -50 * (y - x) ≤ d * y - d * x ∧ d * y - d * x ≤ 50 * (y - x) := by
  have := mul_bd h1 h2 (t := y - x) (by omega)
  rw [Int.mul_sub d] at this
  exact this
/-- What a clock shows. -/
def AT (off d t : Int) : Int := t + off + (d * t) / 1000000
def CV (off d : Int) : Prop := -1000000000 ≤ off ∧ off ≤ 1000000000 ∧ -50 ≤ d ∧ d ≤ 50
instance (off d : Int) : Decidable (CV off d) := by unfold CV; exact inferInstance
theorem floor_eq (p : Int) : (if Int.tmod p 1000000 < 0 then Int.tdiv p 1000000 - 1 else Int.tdiv p 1000000) = p / 1000000 := by
  by_cases h : 0 ≤ p
  · rw [Int.tmod_eq_emod_of_nonneg h, Int.tdiv_eq_ediv_of_nonneg h, if_neg (by omega)]
  · obtain ⟨q, rfl⟩ : ∃ q, p = -q := ⟨-p, by omega⟩
    rw [Int.neg_tmod, Int.neg_tdiv, Int.tmod_eq_emod_of_nonneg (by omega), Int.tdiv_eq_ediv_of_nonneg (by omega)]
    split <;> omega
theorem at_eq {off d t : Int} (hv : CV off d) (h0 : 0 ≤ t) (h1 : t ≤ 10000000000000) : clock_clock_at.f off d t = some (AT off d t) := by
  unfold CV at hv
  have hb := mul_bd hv.2.2.1 hv.2.2.2 h0
  have hf := floor_eq (d * t)
  unfold clock_clock_at.f AT
  rw [w64 (x := d * t) (by omega), w64 (x := t + off) (by omega)]
  generalize d * t = p at *
  by_cases h : Int.tmod p 1000000 < 0
  · rw [if_pos h] at hf ⊢
    rw [w64 (x := Int.tdiv p 1000000) (by omega), hf, w64 (x := p / 1000000) (by omega), w64 (by omega)]
  · rw [if_neg h] at hf ⊢
    rw [hf, w64 (x := p / 1000000) (by omega), w64 (by omega)]
theorem cvalid_eq (off d : Int) : clock_Valid.f off d = some (decide (CV off d)) := by
  unfold clock_Valid.f clock_in.f CV
  rw [w64 (x := -1000000000) (by omega), w64 (x := -50) (by omega)]
  by_cases h1 : off ≥ -1000000000 <;> by_cases h2 : off ≤ 1000000000 <;> by_cases h3 : d ≥ -50 <;> by_cases h4 : d ≤ 50 <;> simp [h1, h2, h3, h4] <;> omega
theorem Show_eq (off d t : Int) : clock_Show.f off d t = some (if CV off d ∧ 0 ≤ t ∧ t ≤ 10000000000000 then (AT off d t, 0) else (0, 1)) := by
  unfold clock_Show.f
  rw [cvalid_eq]
  by_cases h1 : CV off d
  · by_cases h2 : t < 0
    · rw [if_neg (show ¬ (CV off d ∧ 0 ≤ t ∧ t ≤ 10000000000000) from fun hh => by omega), decide_eq_true h1]
      simp only [Option.bind_some, if_true]
      rw [if_pos h2]
    · by_cases h3 : t > 10000000000000
      · rw [if_neg (show ¬ (CV off d ∧ 0 ≤ t ∧ t ≤ 10000000000000) from fun hh => by omega), decide_eq_true h1]
        simp only [Option.bind_some, if_true]
        rw [if_neg h2, if_pos h3]
      · rw [if_pos (show CV off d ∧ 0 ≤ t ∧ t ≤ 10000000000000 from ⟨h1, by omega, by omega⟩), decide_eq_true h1]
        simp only [Option.bind_some, if_true]
        rw [if_neg h2, if_neg h3, at_eq h1 (by omega) (by omega)]
        rfl
  · rw [if_neg (show ¬ (CV off d ∧ 0 ≤ t ∧ t ≤ 10000000000000) from fun hh => h1 hh.1), decide_eq_false h1]
    rfl
theorem True_eq (l h a t s : Int) (hb : -9000000000000000000 ≤ t - s ∧ t - s ≤ 9000000000000000000) : slotmeshref08_True.f l h a t s = some (decide (a = s ∧ l ≤ t - s ∧ t - s ≤ h)) := by
  unfold slotmeshref08_True.f
  rw [w64 (x := t - s) (by omega)]
  by_cases h1 : a = s <;> by_cases h2 : t - s ≥ l <;> by_cases h3 : t - s ≤ h <;> simp [h1, h2, h3] <;> omega
/-- What a clock shows lies near the true time, and runs with it. -/
theorem AT_near {off d t : Int} (hv : CV off d) (h0 : 0 ≤ t) (h1 : t ≤ 10000000000000) : -1500000001 ≤ AT off d t - t ∧ AT off d t - t ≤ 1500000001 ∧ -2000000000 ≤ AT off d t ∧ AT off d t ≤ 20000000000000 := by
  unfold CV at hv
  have hb := mul_bd hv.2.2.1 hv.2.2.2 h0
  unfold AT
  generalize d * t = p at *
  omega
theorem AT_mono {off d x y : Int} (hv : CV off d) (h : x ≤ y) : AT off d x ≤ AT off d y := by
  unfold CV at hv
  have hb := mul_df hv.2.2.1 hv.2.2.2 h
  unfold AT
  generalize d * x = p at *
  generalize d * y = q at *
  omega
/-- Growing keeps a span true. -/
theorem AT_grow {off d x y : Int} (hv : CV off d) (h : x ≤ y) : -(MO (AT off d y - AT off d x)) ≤ (y - AT off d y) - (x - AT off d x) ∧ (y - AT off d y) - (x - AT off d x) ≤ MO (AT off d y - AT off d x) := by
  unfold CV at hv
  have hb := mul_df hv.2.2.1 hv.2.2.2 h
  unfold AT MO
  generalize d * x = p at *
  generalize d * y = q at *
  omega
end Go.Proofs.Ytkbfhonoamgjgaa.P
end
section
/- When a state is true for a clock. Conditions: none. -/
namespace Go.Proofs.Ytkbfhonoamgjgaa.P
open Go.RowKit Go.Proofs.YtkbfhonoamgjgaaW.PrintWords Go.Proofs.YtkbfhonoamgjgaaW.PrintLast Go.Proofs.YtkbfhonoamgjgaaW.PrintMore
set_option linter.unusedVariables false
set_option linter.unusedSimpArgs false
theorem holds_eq (sy : Bool) (l h a ho so he off d t : Int) (ht : -9000000000000000000 ≤ t ∧ t ≤ 9000000000000000000) : slotmeshlaw09_holds.f sy l h a ho so he off d t = some (decide ((CV off d ∧ 0 ≤ t ∧ t ≤ 10000000000000) ∧ a = AT off d t ∧ l ≤ t - AT off d t ∧ t - AT off d t ≤ h)) := by
  unfold slotmeshlaw09_holds.f
  rw [Show_eq]
  by_cases h1 : CV off d ∧ 0 ≤ t ∧ t ≤ 10000000000000
  · have hn := AT_near h1.1 h1.2.1 h1.2.2
    rw [if_pos h1]
    simp only [Option.bind_some, if_true]
    rw [True_eq _ _ _ _ _ (by omega)]
    simp [h1]
  · rw [if_neg h1]
    simp [h1]
end Go.Proofs.Ytkbfhonoamgjgaa.P
end
section
/- The pure statement of TimesyncTruth. Conditions: none. -/
namespace Go.Proofs.Ytkbfhonoamgjgaa.P
open Go.RowKit Go.Proofs.YtkbfhonoamgjgaaW.PrintWords Go.Proofs.YtkbfhonoamgjgaaW.PrintLast Go.Proofs.YtkbfhonoamgjgaaW.PrintMore
set_option linter.unusedVariables false
set_option linter.unusedSimpArgs false
/-- Two true spans of one clock meet to a true one, or leave the range. -/
theorem M_true2 {off d x y l0 h0 l1 h1 : Int} (hv : CV off d) (hxy : x ≤ y)
    (ha : VP l0 h0 (AT off d x)) (hb : VP l1 h1 (AT off d y)) (ta : l0 ≤ x - AT off d x ∧ x - AT off d x ≤ h0) (tb : l1 ≤ y - AT off d y ∧ y - AT off d y ≤ h1) :
    (∃ l h, M l0 h0 (AT off d x) l1 h1 (AT off d y) = (l, h, AT off d y, 0) ∧ l ≤ y - AT off d y ∧ y - AT off d y ≤ h) ∨ M l0 h0 (AT off d x) l1 h1 (AT off d y) = (0, 0, 0, 3) := by
  have n3 := AT_mono hv hxy
  have n4 := AT_grow hv hxy
  generalize AT off d x = p at *
  generalize AT off d y = q at *
  have hm : 0 ≤ MO (q - p) := by unfold MO; omega
  have hmx : mx p q = q := by unfold mx; split <;> omega
  have hd1 : dl p q = MO (q - p) := by unfold dl; rw [if_neg (by omega)]
  have hd2 : 0 ≤ dl q p := by unfold dl MO; split <;> omega
  by_cases c : VP (l0 - dl p q) (h0 + dl p q) (mx p q) ∧ VP (l1 - dl q p) (h1 + dl q p) (mx p q)
  · left
    refine ⟨mx (l0 - dl p q) (l1 - dl q p), mn (h0 + dl p q) (h1 + dl q p), ?_, ?_, ?_⟩
    · unfold M
      rw [if_pos ⟨ha, hb⟩, if_pos c, if_neg, hmx]
      unfold mx mn; rw [hd1]; split <;> split <;> omega
    · unfold mx; rw [hd1]; split <;> omega
    · unfold mn; rw [hd1]; split <;> omega
  · right
    unfold M
    rw [if_pos ⟨ha, hb⟩, if_neg c]
theorem TimesyncTruth_pure : ∀ (a0_0 : Bool) (a0_1 : Int) (a0_2 : Int) (a0_3 : Int) (a0_4 : Int) (a0_5 : Int) (a0_6 : Int) (a1_0 : Int) (a1_1 : Int) (a2_0 : Int) (a2_1 : Int) (a2_2 : Int) (a2_3 : Int) (a2_4 : Int) (a3 : Int) (a4 : Int) (a5 : Int), (Lit.int .i64 a0_1).wf = true → (Lit.int .i64 a0_2).wf = true → (Lit.int .i64 a0_3).wf = true → (Lit.int .i64 a0_4).wf = true → (Lit.int .i64 a0_5).wf = true → (Lit.int .i64 a0_6).wf = true → (Lit.int .i64 a1_0).wf = true → (Lit.int .i64 a1_1).wf = true → (Lit.int .i64 a2_0).wf = true → (Lit.int .i64 a2_1).wf = true → (Lit.int .i64 a2_2).wf = true → (Lit.int .i64 a2_3).wf = true → (Lit.int .i64 a2_4).wf = true → (Lit.int .i64 a3).wf = true → (Lit.int .i64 a4).wf = true → (Lit.int .i64 a5).wf = true → ∃ k, slotmeshlaw09_TimesyncTruth.f k a0_0 a0_1 a0_2 a0_3 a0_4 a0_5 a0_6 a1_0 a1_1 a2_0 a2_1 a2_2 a2_3 a2_4 a3 a4 a5 = some true := by
  intro sy l h a ho so he off d fr hh bnd asn loc t later o
  intros w1 w2 w3 w4 w5 w6 w7 w8 w9 w10 w11 w12 w13 w14 w15 w16
  refine ⟨10, ?_⟩
  have bt := wf64 w14
  have bl := wf64 w15
  have bo := wf64 w16
  unfold slotmeshlaw09_TimesyncTruth.f
  rw [head10]
  simp only [Option.bind_some]
  have stop : ∀ x, slotmeshlaw09_TimesyncTruth.j0 10 t later o true true sy l h a ho so he off d fr hh bnd asn 0 = x → x = some true := by
    intro x e; rw [← e, show (10 : Nat) = 9 + 1 from rfl]; simp [slotmeshlaw09_TimesyncTruth.j0]
  have stop1 : ∀ y n s x, slotmeshlaw09_TimesyncTruth.j1 9 true y true sy l h a ho so he off d fr hh bnd n s = x → x = some true := by
    intro y n s x e; rw [← e, show (9 : Nat) = 8 + 1 from rfl]; simp [slotmeshlaw09_TimesyncTruth.j1]
  by_cases g1 : later < 0
  · rw [if_pos g1]; exact stop _ rfl
  rw [if_neg g1]
  by_cases g2 : later > 10000000000
  · rw [if_pos g2]; exact stop _ rfl
  rw [if_neg g2]
  by_cases g3 : o < wrap64 (-bnd)
  · rw [if_pos g3]; exact stop _ rfl
  rw [if_neg g3]
  by_cases g4 : o > bnd
  · rw [if_pos g4]; exact stop _ rfl
  rw [if_neg g4]
  by_cases g5 : t < 0
  · rw [if_pos g5]; exact stop _ rfl
  rw [if_neg g5, w64 (x := 10000000000000 - later) (by omega), w64 (x := 10000000000000 - later - 20000) (by omega)]
  by_cases g6 : t > 10000000000000 - later - 20000
  · rw [if_pos g6]; exact stop _ rfl
  rw [if_neg g6]
  by_cases g7 : asn < 0
  · rw [if_pos g7]; exact stop _ rfl
  rw [if_neg g7]
  by_cases g8 : asn > 1000000000
  · rw [if_pos g8]; exact stop _ rfl
  rw [if_neg g8]
  by_cases g9 : bnd < 0
  · rw [if_pos g9]; exact stop _ rfl
  rw [if_neg g9]
  by_cases g10 : bnd > 2000
  · rw [decide_eq_true g10]; exact stop _ rfl
  rw [decide_eq_false g10]
  rw [w64 (x := -bnd) (by omega)] at g3
  rw [show (10 : Nat) = 9 + 1 from rfl]
  simp only [slotmeshlaw09_TimesyncTruth.j0, Bool.false_eq_true, if_false]
  rw [w64 (x := t + later) (by omega), Int.tdiv_eq_ediv_of_nonneg (by omega), w64 (x := (t + later) / 10000) (by omega)]
  obtain ⟨n, hn⟩ : ∃ n, (t + later) / 10000 = n := ⟨_, rfl⟩
  have hn0 : 0 ≤ n ∧ n ≤ 1000000000 := by omega
  rw [hn, w64 (x := n * 10000) (by omega), w64 (x := n * 10000 + o) (by omega), Show_eq]
  obtain ⟨y, hy⟩ : ∃ y, n * 10000 + o = y := ⟨_, rfl⟩
  rw [hy]
  simp only [Option.bind_some]
  by_cases k1 : CV off d ∧ 0 ≤ y ∧ y ≤ 10000000000000
  rotate_left
  · rw [if_neg k1]; exact stop1 0 0 0 _ rfl
  rw [if_pos k1]
  simp only [if_true]
  by_cases k2 : y < t
  · rw [if_pos k2]; exact stop1 0 0 0 _ rfl
  rw [if_neg k2, show (9 : Nat) = 8 + 1 from rfl, rsvalid_eq, rhint_eq, show 8 + 1 = (9 : Nat) from rfl]
  simp only [Option.bind_some, slotmeshref09_Root.f]
  by_cases k3 : SV sy l h a ho so he
  rotate_left
  · rw [decide_eq_false k3, if_neg (by decide)]; exact stop1 0 0 0 _ rfl
  rw [decide_eq_true k3, if_pos rfl]
  by_cases k4 : HN fr hh bnd n (AT off d y)
  rotate_left
  · rw [decide_eq_false k4, if_neg (by decide)]; exact stop1 0 0 0 _ rfl
  rw [decide_eq_true k4, if_pos rfl]
  have nn := AT_near k1.1 k1.2.1 k1.2.2
  have hHD : HD bnd n (AT off d y) = (n * 10000 - AT off d y - bnd, n * 10000 - AT off d y + bnd, AT off d y, 0) := by unfold HD; rw [if_pos (by omega)]
  have hHN := k4
  unfold HN at hHN
  -- the end, for a state that is not the root's, and true where it is synchronized
  have fin : (sy = true → ho ≠ 0 ∧ a = AT off d t ∧ l ≤ t - AT off d t ∧ t - AT off d t ≤ h) → slotmeshlaw09_TimesyncTruth.j1 9 true y false sy l h a ho so he off d fr hh bnd n (AT off d y) = some true := by
    intro hs
    rw [show (9 : Nat) = 8 + 1 from rfl]
    simp only [slotmeshlaw09_TimesyncTruth.j1, Bool.false_eq_true, if_false]
    rw [show (8 : Nat) = 2 + 6 from rfl, Hear_eq, rtakes_eq]
    simp only [Option.bind_some, if_true]
    by_cases c5 : TK sy ho so fr hh
    · rw [decide_eq_true c5]
      simp only [if_true]
      have hHE : HE sy l h a ho so he fr hh bnd n (AT off d y) = (if sy = true then
        (if (M l h a (HD bnd n (AT off d y)).1 (HD bnd n (AT off d y)).2.1 (HD bnd n (AT off d y)).2.2.1).2.2.2 = 0 then (true, (M l h a (HD bnd n (AT off d y)).1 (HD bnd n (AT off d y)).2.1 (HD bnd n (AT off d y)).2.2.1).1, (M l h a (HD bnd n (AT off d y)).1 (HD bnd n (AT off d y)).2.1 (HD bnd n (AT off d y)).2.2.1).2.1, (M l h a (HD bnd n (AT off d y)).1 (HD bnd n (AT off d y)).2.1 (HD bnd n (AT off d y)).2.2.1).2.2.1, hh + 1, fr, n, 0)
         else (sy, l, h, a, ho, so, he, (M l h a (HD bnd n (AT off d y)).1 (HD bnd n (AT off d y)).2.1 (HD bnd n (AT off d y)).2.2.1).2.2.2))
       else (true, (HD bnd n (AT off d y)).1, (HD bnd n (AT off d y)).2.1, (HD bnd n (AT off d y)).2.2.1, hh + 1, fr, n, 0)) := by
        unfold HE; rw [if_pos ⟨k3, hHN.1, hHN.2.1, hHN.2.2⟩, if_pos c5]
      rw [hHE, hHD]
      cases sy
      · simp only [Bool.false_eq_true, if_false, if_true]
        rw [holds_eq _ _ _ _ _ _ _ _ _ _ (by omega), decide_eq_true ⟨k1, rfl, by omega, by omega⟩]
        rfl
      · obtain ⟨h0, ha, t1, t2⟩ := hs rfl
        have hvp : VP l h a := by
          unfold SV at k3
          rw [if_pos rfl] at k3
          rcases k3.2 with q | q
          · exact absurd q h0
          · exact q.2.2
        subst ha
        simp only [if_true]
        rcases M_true2 k1.1 (show t ≤ y by omega) hvp (show VP (n * 10000 - AT off d y - bnd) (n * 10000 - AT off d y + bnd) (AT off d y) by unfold VP; omega) ⟨t1, t2⟩ ⟨by omega, by omega⟩ with ⟨l', h', e, u1, u2⟩ | e
        · rw [e]
          simp only [if_true]
          rw [holds_eq _ _ _ _ _ _ _ _ _ _ (by omega), decide_eq_true ⟨k1, rfl, u1, u2⟩]
          rfl
        · rw [e]
          simp
    · have hHE : HE sy l h a ho so he fr hh bnd n (AT off d y) = (sy, l, h, a, ho, so, he, 0) := by
        unfold HE; rw [if_pos ⟨k3, hHN.1, hHN.2.1, hHN.2.2⟩, if_neg c5]
      rw [decide_eq_false c5, hHE]
      simp
  cases sy
  · simp only [Bool.false_eq_true, if_false]
    exact fin (fun q => by cases q)
  · simp only [if_true, Option.bind_some, beq_iff_eq]
    by_cases k5 : ho = 0
    · rw [if_pos k5]; exact stop1 0 0 0 _ rfl
    rw [if_neg k5, holds_eq _ _ _ _ _ _ _ _ _ _ (by omega)]
    simp only [Option.bind_some]
    by_cases k6 : (CV off d ∧ 0 ≤ t ∧ t ≤ 10000000000000) ∧ a = AT off d t ∧ l ≤ t - AT off d t ∧ t - AT off d t ≤ h
    · rw [decide_eq_true k6]
      exact fin (fun _ => ⟨k5, k6.2⟩)
    · rw [decide_eq_false k6]; exact stop1 0 0 0 _ rfl
end Go.Proofs.Ytkbfhonoamgjgaa.P
end
section
/- The call of TimesyncTruth answers true, out of its pure statement. Conditions: none. -/
namespace Go.Proofs.Ytkbfhonoamgjgaa.P
open Go.RowKit
theorem TimesyncTruth_walk (a0_0 : Bool) (a0_1 : Int) (a0_2 : Int) (a0_3 : Int) (a0_4 : Int) (a0_5 : Int) (a0_6 : Int) (a1_0 : Int) (a1_1 : Int) (a2_0 : Int) (a2_1 : Int) (a2_2 : Int) (a2_3 : Int) (a2_4 : Int) (a3 : Int) (a4 : Int) (a5 : Int) (w : World) (w0_1 : (Lit.int .i64 a0_1).wf = true) (w0_2 : (Lit.int .i64 a0_2).wf = true) (w0_3 : (Lit.int .i64 a0_3).wf = true) (w0_4 : (Lit.int .i64 a0_4).wf = true) (w0_5 : (Lit.int .i64 a0_5).wf = true) (w0_6 : (Lit.int .i64 a0_6).wf = true) (w1_0 : (Lit.int .i64 a1_0).wf = true) (w1_1 : (Lit.int .i64 a1_1).wf = true) (w2_0 : (Lit.int .i64 a2_0).wf = true) (w2_1 : (Lit.int .i64 a2_1).wf = true) (w2_2 : (Lit.int .i64 a2_2).wf = true) (w2_3 : (Lit.int .i64 a2_3).wf = true) (w2_4 : (Lit.int .i64 a2_4).wf = true) (w3 : (Lit.int .i64 a3).wf = true) (w4 : (Lit.int .i64 a4).wf = true) (w5 : (Lit.int .i64 a5).wf = true) :
    Calls Try.prog 9 #[.agg #[.bool a0_0, .int .i64 a0_1, .int .i64 a0_2, .int .i64 a0_3, .int .i64 a0_4, .int .i64 a0_5, .int .i64 a0_6], .agg #[.int .i64 a1_0, .int .i64 a1_1], .agg #[.int .i64 a2_0, .int .i64 a2_1, .int .i64 a2_2, .int .i64 a2_3, .int .i64 a2_4], .int .i64 a3, .int .i64 a4, .int .i64 a5] w fun e w' => e = .returned (.bool true) ∧ Below w.heap.size w w' := by
  obtain ⟨k, h⟩ := TimesyncTruth_pure a0_0 a0_1 a0_2 a0_3 a0_4 a0_5 a0_6 a1_0 a1_1 a2_0 a2_1 a2_2 a2_3 a2_4 a3 a4 a5 w0_1 w0_2 w0_3 w0_4 w0_5 w0_6 w1_0 w1_1 w2_0 w2_1 w2_2 w2_3 w2_4 w3 w4 w5
  refine (slotmeshlaw09_TimesyncTruth.calls k a0_0 a0_1 a0_2 a0_3 a0_4 a0_5 a0_6 a1_0 a1_1 a2_0 a2_1 a2_2 a2_3 a2_4 a3 a4 a5 true w h).mono ?_
  rintro e w' ⟨rfl, hd⟩
  exact ⟨rfl, hd⟩
end Go.Proofs.Ytkbfhonoamgjgaa.P
end
section
/- The given statement of TimesyncTruth: for every input it answers true, and the input reads as before. Conditions: none. -/
namespace Go.Proofs.Ytkbfhonoamgjgaa.timesyncTruth
open Go.ChangeShapes Go.WideShapes Go.ChangeAt Go.RowKit
set_option linter.unusedVariables false
set_option maxRecDepth 100000
theorem own : ownKnob Try.prog.godebug = none := by kernel_rfl
theorem laidOut : laidOutB Try.prog = true := by kernel_rfl
set_option maxRecDepth 100000 in
theorem lifted (os : Os) (started : os.Started) (H : Type) (enc : TypeId × Value → H) :
    ReturnsInHanded {} Try.checked os 9 .any (Rows.timesyncTruthSpec.pre6 enc Try.prog Try.f9 Rows.timesyncTruthRow.domain false) (Rows.timesyncTruthSpec.post enc Try.prog Try.f9 false true false false) := by
  refine returnsInHanded_of_change_sized (C := Try.checked) own started (by kernel_rfl) Try.func9
    (ChangeSpec.witness6 (enc := enc) (C := Try.checked) false ⟨#[], #[.agg #[.bool false, .int .i64 0, .int .i64 0, .int .i64 0, .int .i64 0, .int .i64 0, .int .i64 0], .agg #[.int .i64 0, .int .i64 0], .agg #[.int .i64 0, .int .i64 0, .int .i64 0, .int .i64 0, .int .i64 0], .int .i64 0, .int .i64 0, .int .i64 0], []⟩ 8 (by kernel_rfl) (by kernel_rfl) (by kernel_rfl) (by kernel_rfl)) ?_
  intro W base args ds gs before hval0 hW hcnd hsz0 _
  have hval : ∀ (j : Nat) t v, Try.f9.params[j]? = some t → args[j]? = some v → Value.okWide Try.prog W .any base t v := hval0
  have hW' := hW
  obtain ⟨p, q, hA0, hV, rfl, hfz, hnd⟩ := hW
  have hA : DataW.TrodAll enc Try.prog W 0 (fun _ => true) true Try.f9.params.toList args.toList ds p := hA0
  rw [Try.params9] at hA hval
  obtain ⟨v0, vs0, d0, ds0, p0, q0, hargs, rfl, rfl, h0, r0⟩ := trodAll_cons hA
  obtain ⟨v1, vs1, d1, ds1, p1, q1, rfl, rfl, rfl, h1, r1⟩ := trodAll_cons r0
  obtain ⟨v2, vs2, d2, ds2, p2, q2, rfl, rfl, rfl, h2, r2⟩ := trodAll_cons r1
  obtain ⟨v3, vs3, d3, ds3, p3, q3, rfl, rfl, rfl, h3, r3⟩ := trodAll_cons r2
  obtain ⟨v4, vs4, d4, ds4, p4, q4, rfl, rfl, rfl, h4, r4⟩ := trodAll_cons r3
  obtain ⟨v5, vs5, d5, ds5, p5, q5, rfl, rfl, rfl, h5, r5⟩ := trodAll_cons r4
  obtain ⟨rfl, rfl, rfl⟩ := trodAll_nil r5
  obtain rfl : args = #[v0, v1, v2, v3, v4, v5] := by cases args; simp_all
  obtain ⟨rfl, rfl⟩ := trodVars_none hV
  have lt0 : ∀ x ∈ p0, x.block < W.heap.size := by obtain ⟨m, hm⟩ := h0; exact DataW.trod_lt m _ _ _ hm
  obtain ⟨a0_0, a0_1, a0_2, a0_3, a0_4, a0_5, a0_6, rfl, w0_1, w0_2, w0_3, w0_4, w0_5, w0_6⟩ := open25 (hval 0 25 v0 rfl rfl) h0
  have lt1 : ∀ x ∈ p1, x.block < W.heap.size := by obtain ⟨m, hm⟩ := h1; exact DataW.trod_lt m _ _ _ hm
  obtain ⟨a1_0, a1_1, rfl, w1_0, w1_1⟩ := open47 (hval 1 47 v1 rfl rfl) h1
  have lt2 : ∀ x ∈ p2, x.block < W.heap.size := by obtain ⟨m, hm⟩ := h2; exact DataW.trod_lt m _ _ _ hm
  obtain ⟨a2_0, a2_1, a2_2, a2_3, a2_4, rfl, w2_0, w2_1, w2_2, w2_3, w2_4⟩ := open27 (hval 2 27 v2 rfl rfl) h2
  obtain ⟨a3, rfl, rfl, rfl, w3⟩ := open_int Try.underlying3 (hval 3 3 v3 rfl rfl) h3
  obtain ⟨a4, rfl, rfl, rfl, w4⟩ := open_int Try.underlying3 (hval 4 3 v4 rfl rfl) h4
  obtain ⟨a5, rfl, rfl, rfl, w5⟩ := open_int Try.underlying3 (hval 5 3 v5 rfl rfl) h5
  clear hA0 hval0 hsz0
  refine (P.TimesyncTruth_walk a0_0 a0_1 a0_2 a0_3 a0_4 a0_5 a0_6 a1_0 a1_1 a2_0 a2_1 a2_2 a2_3 a2_4 a3 a4 a5 W w0_1 w0_2 w0_3 w0_4 w0_5 w0_6 w1_0 w1_1 w2_0 w2_1 w2_2 w2_3 w2_4 w3 w4 w5).mono fun e W' ⟨he, bel⟩ => ?_
  subst he
  exact ⟨_, rfl, _, _, _, [], _, [], hW', trodAll_mk1 (shut_bool Try.underlying4 _), (trodAll_cons_mk (Below.trod laidOut (by kernel_rfl) (of_decide_eq_true (by kernel_rfl)) h0 bel lt0) (trodAll_cons_mk (Below.trod laidOut (by kernel_rfl) (of_decide_eq_true (by kernel_rfl)) h1 bel lt1) (trodAll_cons_mk (Below.trod laidOut (by kernel_rfl) (of_decide_eq_true (by kernel_rfl)) h2 bel lt2) (trodAll_cons_mk (shut_int Try.underlying3 w3) (trodAll_cons_mk (shut_int Try.underlying3 w4) (trodAll_cons_mk (shut_int Try.underlying3 w5) trodAll_mk0)))))), rfl, bel.frame _, fun h => by cases h⟩
theorem over : Rows.timesyncTruthRow.holds Try.pinned (OpenSpec.ofChange Rows.timesyncTruthSpec) :=
  OpenClaim.holds_of_wide 9 Try.f9 rfl rfl rfl rfl rfl rfl rfl ⟨rfl, rfl, rfl, rfl, rfl⟩ rfl rfl rfl rfl rfl (by kernel_rfl) Try.func9 (by kernel_rfl)
    (of_decide_eq_true (by kernel_rfl)) (by unfold Func.isWrapper; first | (rw [if_pos (by decide +kernel)]; kernel_rfl) | (rw [if_neg (by decide +kernel)]; exact ⟨rfl, rfl⟩))
    (fun os started H enc _ => lifted os started H enc)
theorem proved : Rows.TimesyncTruthSaid := over
end Go.Proofs.Ytkbfhonoamgjgaa.timesyncTruth
namespace Go.Proofs.Ytkbfhonoamgjgaa
theorem timesyncTruth_holds : Rows.TimesyncTruthSaid := timesyncTruth.proved
#print axioms timesyncTruth_holds
end Go.Proofs.Ytkbfhonoamgjgaa
end
