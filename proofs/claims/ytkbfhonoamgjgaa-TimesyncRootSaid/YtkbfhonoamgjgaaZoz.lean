/- A claim's own texts, laid together by wip/zip.py without what the claim does not use. Conditions: none. -/
import Derived.Test.YtkbfhonoamgjgaaZopx11
import Derived.Test.YtkbfhonoamgjgaaZopx13
import Derived.Test.YtkbfhonoamgjgaaZopx14
import Derived.Test.YtkbfhonoamgjgaaZopx5
import Derived.Test.YtkbfhonoamgjgaaZopx12
import Derived.Test.YtkbfhonoamgjgaaZopx15
import Derived.Test.YtkbfhonoamgjgaaZopx17
import Derived.Test.YtkbfhonoamgjgaaZopx3
import Derived.Test.YtkbfhonoamgjgaaZopx18
import Derived.Test.YtkbfhonoamgjgaaZopx39
import Derived.Test.YtkbfhonoamgjgaaRows
import Derived.Test.YtkbfhonoamgjgaaZoopen
import Derived.WalkKit
import Derived.ProofKit
import Derived.OpenShut
import Derived.ShutString
import Derived.ChangeOld
import Derived.Below
import Derived.SizedLaws
import Derived.Carry
section
/- Plain laws of what the printed functions compute. Conditions: none. -/
namespace Go.Proofs.Ytkbfhonoamgjgaa.P
open Go.RowKit Go.Proofs.YtkbfhonoamgjgaaW.PrintWords Go.Proofs.YtkbfhonoamgjgaaW.PrintLast Go.Proofs.YtkbfhonoamgjgaaW.PrintMore
set_option linter.unusedVariables false
set_option linter.unusedSimpArgs false
theorem w64 {x : Int} (h : -9223372036854775808 ≤ x ∧ x ≤ 9223372036854775807) : wrap64 x = x := by
  unfold wrap64
  omega
theorem asc3 (k : Nat) (a b c : Int) : bound_ascending.f (k + 4) [a, b, c] = some (decide (a ≤ b ∧ b ≤ c)) := by
  by_cases h1 : b < a <;> by_cases h2 : c < b <;> simp [bound_ascending.f, bound_ascending.l0, wrap64, rd, h1, h2] <;> omega
theorem asc4 (k : Nat) (a b c d : Int) : bound_ascending.f (k + 5) [a, b, c, d] = some (decide (a ≤ b ∧ b ≤ c ∧ c ≤ d)) := by
  by_cases h1 : b < a <;> by_cases h2 : c < b <;> by_cases h3 : d < c <;> simp [bound_ascending.f, bound_ascending.l0, wrap64, rd, h1, h2, h3] <;> omega
/-- A valid span. -/
def VP (l h a : Int) : Prop := -20000000000000 ≤ l ∧ l ≤ h ∧ h ≤ 20000000000000 ∧ -2000000000 ≤ a ∧ a ≤ 20000000000000
instance (l h a : Int) : Decidable (VP l h a) := by unfold VP; exact inferInstance
/-- By how much a span grows after e microseconds. -/
def MO (e : Int) : Int := (51 * e + 999999) / 1000000 + 1
theorem valid_eq (k : Nat) (l h a : Int) : bound_span_valid.f (k + 5) l h a = some (decide (VP l h a)) := by
  unfold bound_span_valid.f VP
  rw [asc4, asc3 (k + 1)]
  by_cases h1 : (-20000000000000 ≤ l ∧ l ≤ h ∧ h ≤ 20000000000000) <;> by_cases h2 : (-2000000000 ≤ a ∧ a ≤ 20000000000000) <;> simp [h1, h2] <;> omega
def G (l h a now : Int) : Int × Int × Int × Int :=
  if VP l h a ∧ a ≤ now ∧ now ≤ 20000000000000 then (if VP (l - MO (now - a)) (h + MO (now - a)) now then (l - MO (now - a), h + MO (now - a), now, 0) else (0, 0, 0, 3)) else (0, 0, 0, 1)
theorem more_eq {e : Int} (h0 : 0 ≤ e) (h1 : e ≤ 40000000000000) : wrap64 ((wrap64 (Int.tdiv (wrap64 ((wrap64 ((wrap64 (51 * (wrap64 e))) + 1000000)) - 1)) 1000000)) + 1) = MO e := by
  rw [w64 (x := e) (by omega), w64 (x := 51 * e) (by omega), w64 (x := 51 * e + 1000000) (by omega), w64 (x := 51 * e + 1000000 - 1) (by omega), Int.tdiv_eq_ediv_of_nonneg (by omega), w64 (x := (51 * e + 1000000 - 1) / 1000000) (by omega), w64 (by omega)]
  unfold MO
  omega
theorem grow_eq (k : Nat) (l h a now : Int) : bound_span_grow.f (k + 6) l h a now = some (G l h a now) := by
  unfold bound_span_grow.f G
  rw [show k + 6 = (k + 1) + 5 from rfl, valid_eq, show k + 1 + 5 = (k + 2) + 4 from rfl, asc3]
  by_cases h1 : VP l h a
  · by_cases h2 : a ≤ now ∧ now ≤ 20000000000000
    · have h3 := h1
      unfold VP at h3
      simp only [h1, h2, Option.bind_some, decide_true, if_true, and_self, Bool.not_true, bound_span_grow.j0, Bool.false_eq_true, if_false]
      rw [more_eq (by omega) (by omega)]
      have hm : 0 ≤ MO (now - a) ∧ MO (now - a) ≤ 3000000000 := by unfold MO; omega
      rw [w64 (x := l - MO (now - a)) (by omega), w64 (x := h + MO (now - a)) (by omega), show k + 5 = k + 5 from rfl, valid_eq]
      by_cases h4 : VP (l - MO (now - a)) (h + MO (now - a)) now <;> simp [h4]
    · simp [h1, h2, bound_span_grow.j0]
  · simp [h1, bound_span_grow.j0]
theorem Grow_eq (k : Nat) (l h a now : Int) : bound_Grow.f (k + 6) l h a now = some (G l h a now) := by
  unfold bound_Grow.f; rw [grow_eq]; rfl
/-- By how much a span at the time a grows when it meets one at the time b. -/
def dl (a b : Int) : Int := if b < a then 0 else MO (b - a)
def M (a0 a1 a2 b0 b1 b2 : Int) : Int × Int × Int × Int :=
  if VP a0 a1 a2 ∧ VP b0 b1 b2 then
    (if VP (a0 - dl a2 b2) (a1 + dl a2 b2) (mx a2 b2) ∧ VP (b0 - dl b2 a2) (b1 + dl b2 a2) (mx a2 b2) then
      (if mx (a0 - dl a2 b2) (b0 - dl b2 a2) > mn (a1 + dl a2 b2) (b1 + dl b2 a2) then (0, 0, 0, 16) else (mx (a0 - dl a2 b2) (b0 - dl b2 a2), mn (a1 + dl a2 b2) (b1 + dl b2 a2), mx a2 b2, 0))
     else (0, 0, 0, 3))
  else (0, 0, 0, 1)
theorem mx_comm' (a b : Int) : mx a b = mx b a := by unfold mx; split <;> split <;> omega
theorem mn_comm' (a b : Int) : mn a b = mn b a := by unfold mn; split <;> split <;> omega
theorem M_comm (a0 a1 a2 b0 b1 b2 : Int) : M a0 a1 a2 b0 b1 b2 = M b0 b1 b2 a0 a1 a2 := by
  unfold M
  rw [mx_comm' a2 b2, mx_comm' (a0 - dl a2 b2), mn_comm' (a1 + dl a2 b2)]
  by_cases h1 : VP a0 a1 a2 <;> by_cases h2 : VP b0 b1 b2 <;> by_cases h3 : VP (a0 - dl a2 b2) (a1 + dl a2 b2) (mx b2 a2) <;> by_cases h4 : VP (b0 - dl b2 a2) (b1 + dl b2 a2) (mx b2 a2) <;> simp [h1, h2, h3, h4]
theorem core_eq (k : Nat) (x0 x1 x2 y0 y1 y2 : Int) (hx : VP x0 x1 x2) (hy : VP y0 y1 y2) (h : x2 ≤ y2) : bound_Meet.core (k + 6) x0 x1 x2 y0 y1 y2 = some (M x0 x1 x2 y0 y1 y2) := by
  unfold bound_Meet.core
  rw [grow_eq, grow_eq]
  have hx' := hx
  have hy' := hy
  unfold VP at hx' hy'
  have hm : mx x2 y2 = y2 := by unfold mx; split <;> omega
  have hd : dl x2 y2 = MO (y2 - x2) := by unfold dl; rw [if_neg (by omega)]
  have hG : G x0 x1 x2 y2 = if VP (x0 - MO (y2 - x2)) (x1 + MO (y2 - x2)) y2 then (x0 - MO (y2 - x2), x1 + MO (y2 - x2), y2, 0) else (0, 0, 0, 3) := by unfold G; rw [if_pos ⟨hx, h, by omega⟩]
  by_cases h2 : x2 = y2
  · subst h2
    have hd2 : dl x2 x2 = MO 0 := by unfold dl; rw [if_neg (by omega), Int.sub_self]
    have hG2 : G y0 y1 x2 x2 = if VP (y0 - MO 0) (y1 + MO 0) x2 then (y0 - MO 0, y1 + MO 0, x2, 0) else (0, 0, 0, 3) := by unfold G; rw [if_pos ⟨hy, by omega, by omega⟩, Int.sub_self]
    rw [Int.sub_self] at hG
    unfold M
    rw [if_pos ⟨hx, hy⟩, hm, hd2, hG, hG2]
    by_cases h1 : VP (x0 - MO 0) (x1 + MO 0) x2
    · by_cases h3 : VP (y0 - MO 0) (y1 + MO 0) x2
      · rw [if_pos h1, if_pos h3, if_pos ⟨h1, h3⟩]
        simp only [Option.bind_some, if_true, bound_Meet.fin]
        split <;> rfl
      · rw [if_pos h1, if_neg h3, if_neg (fun h => h3 h.2)]
        simp [bound_Meet.fin]
    · rw [if_neg h1, if_neg (show ¬ (VP (x0 - MO 0) (x1 + MO 0) x2 ∧ VP (y0 - MO 0) (y1 + MO 0) x2) from fun h => h1 h.1)]
      simp [bound_Meet.fin]
  · have hd2 : dl y2 x2 = 0 := by unfold dl; rw [if_pos (by omega)]
    unfold M
    rw [if_pos ⟨hx, hy⟩, hm, hd, hd2, hG]
    have hy2 : VP (y0 - 0) (y1 + 0) y2 := by rw [Int.sub_zero, Int.add_zero]; exact hy
    by_cases h1 : VP (x0 - MO (y2 - x2)) (x1 + MO (y2 - x2)) y2
    · rw [if_pos h1, if_pos ⟨h1, hy2⟩, Int.sub_zero, Int.add_zero]
      simp only [Option.bind_some, if_neg h2, if_true, bound_Meet.fin]
      split <;> rfl
    · rw [if_neg h1, if_neg (fun h => h1 h.1)]
      simp [bound_Meet.fin, h2]
theorem Meet_eq (k : Nat) (a0 a1 a2 b0 b1 b2 : Int) : bound_Meet.f (k + 6) a0 a1 a2 b0 b1 b2 = some (M a0 a1 a2 b0 b1 b2) := by
  unfold bound_Meet.f
  rw [show k + 6 = (k + 1) + 5 from rfl, valid_eq, valid_eq]
  by_cases h1 : VP a0 a1 a2
  · by_cases h2 : VP b0 b1 b2
    · simp only [h1, h2, Option.bind_some, decide_true, if_true]
      by_cases h3 : a2 > b2
      · rw [if_pos h3, show k + 1 + 5 = k + 6 from rfl, core_eq k b0 b1 b2 a0 a1 a2 h2 h1 (by omega), M_comm]
      · rw [if_neg h3, show k + 1 + 5 = k + 6 from rfl, core_eq k a0 a1 a2 b0 b1 b2 h1 h2 (by omega)]
    · simp [h1, h2, M]
  · simp [h1, M]
def HD (bnd asn loc : Int) : Int × Int × Int × Int :=
  if (0 ≤ asn ∧ asn ≤ 1000000000) ∧ (0 ≤ bnd ∧ bnd ≤ 2000) ∧ (-2000000000 ≤ loc ∧ loc ≤ 20000000000000) then (asn * 10000 - loc - bnd, asn * 10000 - loc + bnd, loc, 0) else (0, 0, 0, 1)
theorem Heard_eq (k : Nat) (fr ho bnd asn loc : Int) : bound_Heard.f (k + 6) fr ho bnd asn loc = some (HD bnd asn loc) := by
  unfold bound_Heard.f HD
  rw [show k + 6 = (k + 2) + 4 from rfl, asc3, asc3, asc3]
  by_cases h1 : (0 ≤ asn ∧ asn ≤ 1000000000)
  · by_cases h2 : (0 ≤ bnd ∧ bnd ≤ 2000)
    · by_cases h3 : (-2000000000 ≤ loc ∧ loc ≤ 20000000000000)
      · simp only [h1, h2, h3, and_self, decide_true, Option.bind_some, if_true]
        rw [w64 (x := asn * 10000) (by omega), w64 (x := asn * 10000 - loc) (by omega), w64 (by omega), w64 (by omega)]
      · simp [h1, h2, h3]
    · simp [h1, h2]
  · simp [h1]
def WD (l h a : Int) : Int := if VP l h a then h - l else -1
theorem Width_eq (k : Nat) (l h a : Int) : bound_Width.f (k + 6) l h a = some (WD l h a) := by
  unfold bound_Width.f bound_Valid.f WD
  rw [show k + 6 = (k + 1) + 5 from rfl, valid_eq]
  by_cases h1 : VP l h a
  · have h2 := h1
    unfold VP at h2
    simp only [h1, Option.bind_some, decide_true, if_true]
    rw [w64 (by omega)]
  · simp [h1]
end Go.Proofs.Ytkbfhonoamgjgaa.P
end
section
/- Plain laws of the functions of package timesync. Conditions: none. -/
namespace Go.Proofs.Ytkbfhonoamgjgaa.P
open Go.RowKit Go.Proofs.YtkbfhonoamgjgaaW.PrintWords Go.Proofs.YtkbfhonoamgjgaaW.PrintLast Go.Proofs.YtkbfhonoamgjgaaW.PrintMore
set_option linter.unusedVariables false
set_option linter.unusedSimpArgs false
/-- A valid state. -/
def SV (sy : Bool) (l h a ho so he : Int) : Prop := (-1 ≤ so ∧ so < 60 ∧ 0 ≤ he ∧ he ≤ 1000000000) ∧ (if sy = true then ho = 0 ∨ (1 ≤ ho ∧ ho ≤ 60 ∧ VP l h a) else ho = 60)
instance (sy : Bool) (l h a ho so he : Int) : Decidable (SV sy l h a ho so he) := by unfold SV; exact inferInstance
theorem svalid_eq (k : Nat) (sy : Bool) (l h a ho so he : Int) : timesync_state_valid.f (k + 6) sy l h a ho so he = some (decide (SV sy l h a ho so he)) := by
  have hj : ∀ b, timesync_state_valid.j0 (k + 6) b sy l h a ho so he = some (!b && decide (if sy = true then ho = 0 ∨ (1 ≤ ho ∧ ho ≤ 60 ∧ VP l h a) else ho = 60)) := by
    intro b
    rw [show k + 6 = (k + 5) + 1 from rfl]
    simp only [timesync_state_valid.j0, timesync_state_root.f, bound_Valid.f, valid_eq]
    cases b <;> cases sy <;> simp
    · by_cases h1 : ho = 60 <;> simp [h1]
    · by_cases h1 : ho = 0
      · simp [h1]
      · by_cases h2 : 1 ≤ ho <;> by_cases h3 : ho ≤ 60 <;> by_cases h4 : VP l h a <;> simp [h1, h2, h3, h4]
  unfold timesync_state_valid.f
  by_cases h1 : so < -1
  · rw [if_pos h1, hj, decide_eq_false (show ¬ SV sy l h a ho so he from fun hh => by have := hh.1; omega)]; rfl
  · by_cases h2 : so ≥ 60
    · rw [if_neg h1, if_pos h2, hj, decide_eq_false (show ¬ SV sy l h a ho so he from fun hh => by have := hh.1; omega)]; rfl
    · by_cases h3 : he < 0
      · rw [if_neg h1, if_neg h2, if_pos h3, hj, decide_eq_false (show ¬ SV sy l h a ho so he from fun hh => by have := hh.1; omega)]; rfl
      · rw [if_neg h1, if_neg h2, if_neg h3, hj]
        by_cases h4 : he > 1000000000
        · rw [decide_eq_false (show ¬ SV sy l h a ho so he from fun hh => by have := hh.1; omega), decide_eq_true h4]; rfl
        · have h5 : (-1 ≤ so ∧ so < 60 ∧ 0 ≤ he ∧ he ≤ 1000000000) := by omega
          unfold SV
          rw [decide_eq_false h4]
          simp [h5]
/-- Is a hint taken? -/
def TK (sy : Bool) (ho so fr hh : Int) : Prop := ¬ (sy = true ∧ ho = 0) ∧ (sy = false ∨ hh < ho ∨ fr = so)
instance (sy : Bool) (ho so fr hh : Int) : Decidable (TK sy ho so fr hh) := by unfold TK; exact inferInstance
theorem takes_eq (sy : Bool) (l h a ho so he fr hh bnd asn loc : Int) : timesync_state_takes.f sy l h a ho so he fr hh bnd asn loc = some (decide (TK sy ho so fr hh)) := by
  unfold timesync_state_takes.f timesync_state_root.f TK
  cases sy
  · simp
  · by_cases h1 : ho = 0
    · simp [h1]
    · by_cases h2 : hh < ho <;> by_cases h3 : fr = so <;> simp [h1, h2, h3]
abbrev T8 := Bool × Int × Int × Int × Int × Int × Int × Int
/-- What Hear answers. -/
def HE (sy : Bool) (l h a ho so he fr hh bnd asn loc : Int) : T8 :=
  if SV sy l h a ho so he ∧ (HD bnd asn loc).2.2.2 = 0 ∧ (0 ≤ fr ∧ fr < 60) ∧ (0 ≤ hh ∧ hh < 60) then
    (if TK sy ho so fr hh then
      (if sy = true then
        (if (M l h a (HD bnd asn loc).1 (HD bnd asn loc).2.1 (HD bnd asn loc).2.2.1).2.2.2 = 0 then (true, (M l h a (HD bnd asn loc).1 (HD bnd asn loc).2.1 (HD bnd asn loc).2.2.1).1, (M l h a (HD bnd asn loc).1 (HD bnd asn loc).2.1 (HD bnd asn loc).2.2.1).2.1, (M l h a (HD bnd asn loc).1 (HD bnd asn loc).2.1 (HD bnd asn loc).2.2.1).2.2.1, hh + 1, fr, asn, 0)
         else (sy, l, h, a, ho, so, he, (M l h a (HD bnd asn loc).1 (HD bnd asn loc).2.1 (HD bnd asn loc).2.2.1).2.2.2))
       else (true, (HD bnd asn loc).1, (HD bnd asn loc).2.1, (HD bnd asn loc).2.2.1, hh + 1, fr, asn, 0))
     else (sy, l, h, a, ho, so, he, 0))
  else (sy, l, h, a, ho, so, he, 1)
theorem HD_err (bnd asn loc : Int) : (HD bnd asn loc).2.2.2 = 0 ∨ (HD bnd asn loc).2.2.2 = 1 := by unfold HD; split <;> simp
theorem Hear_eq (k : Nat) (sy : Bool) (l h a ho so he fr hh bnd asn loc : Int) : timesync_Hear.f (k + 6) sy l h a ho so he fr hh bnd asn loc = some (HE sy l h a ho so he fr hh bnd asn loc) := by
  unfold timesync_Hear.f HE
  rw [Heard_eq, svalid_eq, takes_eq]
  simp only [Option.bind_some, Meet_eq]
  by_cases h1 : SV sy l h a ho so he
  · rw [decide_eq_true h1, if_pos rfl]
    rcases HD_err bnd asn loc with h2 | h2
    · rw [if_neg (by omega)]
      by_cases c1 : fr < 0
      · rw [if_pos c1, if_neg (by omega)]
      · by_cases c2 : fr ≥ 60
        · rw [if_neg c1, if_pos c2, if_neg (by omega)]
        · by_cases c3 : hh < 0
          · rw [if_neg c1, if_neg c2, if_pos c3, if_neg (by omega)]
          · by_cases c4 : hh ≥ 60
            · rw [if_neg c1, if_neg c2, if_neg c3, if_pos c4, if_neg (by omega)]
            · rw [if_neg c1, if_neg c2, if_neg c3, if_neg c4, if_pos (show SV sy l h a ho so he ∧ (HD bnd asn loc).2.2.2 = 0 ∧ (0 ≤ fr ∧ fr < 60) ∧ (0 ≤ hh ∧ hh < 60) from ⟨h1, h2, by omega, by omega⟩), w64 (x := hh + 1) (by omega)]
              by_cases c5 : TK sy ho so fr hh
              · rw [decide_eq_true c5, if_pos c5]
                simp only [if_true]
                by_cases c6 : sy = true
                · rw [if_pos c6, if_pos c6]; split <;> rfl
                · rw [if_neg c6, if_neg c6]
              · rw [decide_eq_false c5, if_neg c5]; rfl
    · rw [if_pos h2, if_neg (by omega)]
  · rw [decide_eq_false h1, if_neg (show ¬ (SV sy l h a ho so he ∧ (HD bnd asn loc).2.2.2 = 0 ∧ (0 ≤ fr ∧ fr < 60) ∧ (0 ≤ hh ∧ hh < 60)) from fun q => h1 q.1)]; rfl
/-- What Bound answers. -/
def BO (sy : Bool) (l h a ho so he now : Int) : Int × Int :=
  if SV sy l h a ho so he then
    (if sy = true then (if ho = 0 then (0, 0) else if (G l h a now).2.2.2 = 0 then (if ((G l h a now).2.1 - (G l h a now).1 + 1) / 2 > 2000 then (0, 16) else (((G l h a now).2.1 - (G l h a now).1 + 1) / 2, 0)) else (0, (G l h a now).2.2.2)) else (0, 16))
  else (0, 1)
theorem G_form (l h a now : Int) : (G l h a now = (l - MO (now - a), h + MO (now - a), now, 0) ∧ VP l h a ∧ a ≤ now ∧ now ≤ 20000000000000 ∧ VP (l - MO (now - a)) (h + MO (now - a)) now) ∨ (G l h a now = (0, 0, 0, 3)) ∨ (G l h a now = (0, 0, 0, 1) ∧ ¬ (VP l h a ∧ a ≤ now ∧ now ≤ 20000000000000)) := by
  unfold G
  split
  · rename_i h1
    split
    · rename_i h2; exact .inl ⟨rfl, h1.1, h1.2.1, h1.2.2, h2⟩
    · exact .inr (.inl rfl)
  · rename_i h1; exact .inr (.inr ⟨rfl, h1⟩)
theorem Bound_eq (k : Nat) (sy : Bool) (l h a ho so he now : Int) : timesync_Bound.f (k + 6) sy l h a ho so he now = some (BO sy l h a ho so he now) := by
  unfold timesync_Bound.f BO timesync_state_root.f
  rw [svalid_eq, Grow_eq]
  by_cases h1 : SV sy l h a ho so he
  · rw [decide_eq_true h1, if_pos h1]
    cases sy
    · simp
    · by_cases h2 : ho = 0
      · simp [h2]
      · simp only [Option.bind_some, if_true, h2, beq_iff_eq, if_false]
        rcases G_form l h a now with ⟨e, _, _, _, hv⟩ | e | ⟨e, _⟩
        · rw [e]
          simp only [if_true]
          rw [Width_eq]
          have hw : WD (l - MO (now - a)) (h + MO (now - a)) now = h + MO (now - a) - (l - MO (now - a)) := by unfold WD; rw [if_pos hv]
          unfold VP at hv
          rw [hw]
          simp only [Option.bind_some]
          have hd : 0 ≤ h + MO (now - a) - (l - MO (now - a)) ∧ h + MO (now - a) - (l - MO (now - a)) ≤ 40000000000000 := by omega
          generalize h + MO (now - a) - (l - MO (now - a)) = d at *
          rw [w64 (x := d + 1) (by omega), Int.tdiv_eq_ediv_of_nonneg (by omega), w64 (by omega)]
          split <;> rfl
        · rw [e]; simp
        · rw [e]; simp
  · rw [decide_eq_false h1, if_neg h1]; rfl
/-- What Tick answers. -/
def TI (sy : Bool) (l h a ho so he now : Int) : Bool × Int × Int × Int × Int × Int × Int :=
  if SV sy l h a ho so he ∧ sy = true ∧ (BO sy l h a ho so he now).2 ≠ 0 then (false, 0, 0, 0, 60, -1, 0) else (sy, l, h, a, ho, so, he)
theorem Tick_eq (k : Nat) (sy : Bool) (l h a ho so he now : Int) : timesync_Tick.f (k + 6) sy l h a ho so he now = some (TI sy l h a ho so he now) := by
  unfold timesync_Tick.f TI timesync_Start.f
  rw [Bound_eq, svalid_eq]
  cases sy
  · simp
  · by_cases h1 : SV true l h a ho so he
    · by_cases h2 : (BO true l h a ho so he now).2 = 0
      · simp [h1, h2]
      · simp [h1, h2]
    · simp [h1]
end Go.Proofs.Ytkbfhonoamgjgaa.P
end
section
/- The examples of layer 9 hold, and the forms of what Hear answers. Conditions: none. -/
namespace Go.Proofs.Ytkbfhonoamgjgaa.P
open Go.RowKit Go.Proofs.YtkbfhonoamgjgaaW.PrintWords Go.Proofs.YtkbfhonoamgjgaaW.PrintLast Go.Proofs.YtkbfhonoamgjgaaW.PrintMore
set_option linter.unusedVariables false
set_option linter.unusedSimpArgs false
theorem head60 : slotmeshlaw09_head.f 60 = some true := by kernel_rfl
/-- Hear's answer: unchanged, or taken. -/
theorem HE_form (sy : Bool) (l h a ho so he fr hh bnd asn loc : Int) :
    (∃ e, HE sy l h a ho so he fr hh bnd asn loc = (sy, l, h, a, ho, so, he, e))
    ∨ (SV sy l h a ho so he ∧ (HD bnd asn loc).2.2.2 = 0 ∧ (0 ≤ fr ∧ fr < 60) ∧ (0 ≤ hh ∧ hh < 60) ∧ TK sy ho so fr hh ∧
        ((sy = false ∧ HE sy l h a ho so he fr hh bnd asn loc = (true, (HD bnd asn loc).1, (HD bnd asn loc).2.1, (HD bnd asn loc).2.2.1, hh + 1, fr, asn, 0)) ∨
         (sy = true ∧ (M l h a (HD bnd asn loc).1 (HD bnd asn loc).2.1 (HD bnd asn loc).2.2.1).2.2.2 = 0 ∧ HE sy l h a ho so he fr hh bnd asn loc = (true, (M l h a (HD bnd asn loc).1 (HD bnd asn loc).2.1 (HD bnd asn loc).2.2.1).1, (M l h a (HD bnd asn loc).1 (HD bnd asn loc).2.1 (HD bnd asn loc).2.2.1).2.1, (M l h a (HD bnd asn loc).1 (HD bnd asn loc).2.1 (HD bnd asn loc).2.2.1).2.2.1, hh + 1, fr, asn, 0)))) := by
  unfold HE
  by_cases c1 : SV sy l h a ho so he ∧ (HD bnd asn loc).2.2.2 = 0 ∧ (0 ≤ fr ∧ fr < 60) ∧ (0 ≤ hh ∧ hh < 60)
  · rw [if_pos c1]
    by_cases c2 : TK sy ho so fr hh
    · rw [if_pos c2]
      cases sy
      · rw [if_neg (by decide)]
        exact .inr ⟨c1.1, c1.2.1, c1.2.2.1, c1.2.2.2, c2, .inl ⟨rfl, rfl⟩⟩
      · rw [if_pos rfl]
        by_cases c3 : (M l h a (HD bnd asn loc).1 (HD bnd asn loc).2.1 (HD bnd asn loc).2.2.1).2.2.2 = 0
        · rw [if_pos c3]
          exact .inr ⟨c1.1, c1.2.1, c1.2.2.1, c1.2.2.2, c2, .inr ⟨rfl, c3, rfl⟩⟩
        · rw [if_neg c3]; exact .inl ⟨_, rfl⟩
    · rw [if_neg c2]; exact .inl ⟨_, rfl⟩
  · rw [if_neg c1]; exact .inl ⟨_, rfl⟩
end Go.Proofs.Ytkbfhonoamgjgaa.P
end
section
/- The pure statement of TimesyncRoot. Conditions: none. -/
namespace Go.Proofs.Ytkbfhonoamgjgaa.P
open Go.RowKit Go.Proofs.YtkbfhonoamgjgaaW.PrintWords Go.Proofs.YtkbfhonoamgjgaaW.PrintLast Go.Proofs.YtkbfhonoamgjgaaW.PrintMore
set_option linter.unusedVariables false
set_option linter.unusedSimpArgs false
theorem root_rounds (l : List S27) (now : Int) (c : ¬ (l.length : Int) > 40) : ∀ (j : Nat) (n : Nat), n = l.length - j → j ≤ l.length → slotmeshlaw09_TimesyncRoot.l0 (n + 10) now true l (l.length : Int) (j : Int) true 0 0 0 0 (-1) 0 = some true := by
  have hT : SV true 0 0 0 0 (-1) 0 := by unfold SV; simp
  have hF : SV false 0 0 0 60 (-1) 0 := by unfold SV; simp
  have bT : BO true 0 0 0 0 (-1) 0 now = (0, 0) := by unfold BO; rw [if_pos hT, if_pos rfl, if_pos rfl]
  have bF : BO false 0 0 0 60 (-1) 0 now = (0, 16) := by unfold BO; rw [if_pos hF, if_neg (by decide)]
  have tT : TI true 0 0 0 0 (-1) 0 now = (true, 0, 0, 0, 0, -1, 0) := by unfold TI; rw [bT, if_neg (fun q => q.2.2 rfl)]
  have tF : TI false 0 0 0 60 (-1) 0 now = (false, 0, 0, 0, 60, -1, 0) := by unfold TI; rw [if_neg (fun q => by cases q.2.1)]
  have hr : ∀ fr hh bnd asn loc, ∃ e, HE true 0 0 0 0 (-1) 0 fr hh bnd asn loc = (true, 0, 0, 0, 0, -1, 0, e) := by
    intro fr hh bnd asn loc
    rcases HE_form true 0 0 0 0 (-1) 0 fr hh bnd asn loc with h | ⟨_, _, _, _, h, _⟩
    · exact h
    · unfold TK at h; exact absurd ⟨rfl, rfl⟩ h.1
  intro j n
  induction n generalizing j with
  | zero =>
    intro e hj
    rw [show (0 + 10 : Nat) = (3 + 6) + 1 from rfl, slotmeshlaw09_TimesyncRoot.l0, if_neg (by omega)]
    simp only [Bound_eq, bT, timesync_Start.f, Option.bind_some, Bool.false_eq_true, if_false, bF, Tick_eq, tF]
    simp
  | succ n ih =>
    intro e hj
    rw [show (n + 1 + 10 : Nat) = ((n + 4) + 6) + 1 by omega, slotmeshlaw09_TimesyncRoot.l0, if_pos (by omega), if_pos (by omega), if_pos (by omega)]
    obtain ⟨er, he⟩ := hr (rd_T27 l (j : Int)).f0 (rd_T27 l (j : Int)).f1 (rd_T27 l (j : Int)).f2 (rd_T27 l (j : Int)).f3 (rd_T27 l (j : Int)).f4
    rw [Hear_eq, he, Option.bind_some, if_neg (by simp), Tick_eq, tT, Option.bind_some, if_neg (by simp), w64 (x := (j : Int) + 1) (by omega), show (j : Int) + 1 = ((j + 1 : Nat) : Int) by omega]
    have h9 := ih (j + 1) (by omega) (by omega)
    rw [show n + 10 = (n + 4) + 6 by omega] at h9
    exact h9
theorem TimesyncRoot_pure : ∀ (l0 : List S27) (a1 : Int), (∀ x ∈ l0, (Lit.int .i64 x.f0).wf = true ∧ (Lit.int .i64 x.f1).wf = true ∧ (Lit.int .i64 x.f2).wf = true ∧ (Lit.int .i64 x.f3).wf = true ∧ (Lit.int .i64 x.f4).wf = true) → (Lit.int .i64 a1).wf = true → ∃ k, slotmeshlaw09_TimesyncRoot.f k l0 a1 = some true := by
  intro l now _ wn
  refine ⟨60, ?_⟩
  unfold slotmeshlaw09_TimesyncRoot.f
  rw [head60]
  simp only [Option.bind_some]
  by_cases c : (l.length : Int) > 40
  · rw [if_pos c]
  rw [if_neg c]
  have h1 : timesync_Start.f true = some (true, 0, 0, 0, 0, -1, 0) := by unfold timesync_Start.f; rw [if_pos rfl]
  rw [h1]
  simp only [Option.bind_some]
  have h2 := root_rounds l now c 0 l.length rfl (Nat.zero_le _)
  rw [Int.natCast_zero] at h2
  obtain ⟨g, hg⟩ : ∃ g : Nat → Option Bool, g = fun k => slotmeshlaw09_TimesyncRoot.l0 k now true l (l.length : Int) 0 true 0 0 0 0 (-1) 0 := ⟨_, rfl⟩
  have hm : ∀ k, LeO (g k) (g (k + 1)) := by rw [hg]; exact fun k => slotmeshlaw09_TimesyncRoot.mono_l k now true l (l.length : Int) 0 true 0 0 0 0 (-1) 0
  have h3 : g (l.length + 10) = some true := by rw [hg]; exact h2
  have h4 := at_rounds hm (show l.length + 10 ≤ 60 by omega) h3
  rw [hg] at h4
  exact h4
end Go.Proofs.Ytkbfhonoamgjgaa.P
end
section
/- The call of TimesyncRoot answers true, out of its pure statement. Conditions: none. -/
namespace Go.Proofs.Ytkbfhonoamgjgaa.P
open Go.RowKit Go.Proofs.YtkbfhonoamgjgaaW.PrintWords
theorem TimesyncRoot_walk (A0 : Option Addr) (c0 : Nat) (l0 : List S27) (a1 : Int) (w : World) (hr0 : Kd.C k27 w A0 l0.length l0) (hc0 : l0.length ≤ c0) (w0 : ∀ x ∈ l0, (Lit.int .i64 x.f0).wf = true ∧ (Lit.int .i64 x.f1).wf = true ∧ (Lit.int .i64 x.f2).wf = true ∧ (Lit.int .i64 x.f3).wf = true ∧ (Lit.int .i64 x.f4).wf = true) (w1 : (Lit.int .i64 a1).wf = true) :
    Calls Try.prog 8 #[.slice A0 l0.length c0, .int .i64 a1] w fun e w' => e = .returned (.bool true) ∧ Below w.heap.size w w' := by
  obtain ⟨k, h⟩ := TimesyncRoot_pure l0 a1 w0 w1
  refine (slotmeshlaw09_TimesyncRoot.calls k A0 c0 l0 a1 true w hr0 hc0 h).mono ?_
  rintro e w' ⟨rfl, hd⟩
  exact ⟨rfl, hd⟩
end Go.Proofs.Ytkbfhonoamgjgaa.P
end
section
/- The given statement of TimesyncRoot: for every input it answers true, and the input reads as before. Conditions: none. -/
namespace Go.Proofs.Ytkbfhonoamgjgaa.timesyncRoot
open Go.ChangeShapes Go.WideShapes Go.ChangeAt Go.RowKit
set_option linter.unusedVariables false
set_option maxRecDepth 100000
theorem own : ownKnob Try.prog.godebug = none := by kernel_rfl
theorem laidOut : laidOutB Try.prog = true := by kernel_rfl
set_option maxRecDepth 100000 in
theorem lifted (os : Os) (started : os.Started) (H : Type) (enc : TypeId × Value → H) :
    ReturnsInHanded {} Try.checked os 8 .any (Rows.timesyncRootSpec.pre6 enc Try.prog Try.f8 Rows.timesyncRootRow.domain false) (Rows.timesyncRootSpec.post enc Try.prog Try.f8 false true false false) := by
  refine returnsInHanded_of_change_sized (C := Try.checked) own started (by kernel_rfl) Try.func8
    (ChangeSpec.witness6 (enc := enc) (C := Try.checked) false ⟨#[], #[.slice none 0 0, .int .i64 0], []⟩ 8 (by kernel_rfl) (by kernel_rfl) (by kernel_rfl) (by kernel_rfl)) ?_
  intro W base args ds gs before hval0 hW hcnd hsz0 _
  have hval : ∀ (j : Nat) t v, Try.f8.params[j]? = some t → args[j]? = some v → Value.okWide Try.prog W .any base t v := hval0
  have hW' := hW
  obtain ⟨p, q, hA0, hV, rfl, hfz, hnd⟩ := hW
  have hA : DataW.TrodAll enc Try.prog W 0 (fun _ => true) true Try.f8.params.toList args.toList ds p := hA0
  rw [Try.params8] at hA hval
  obtain ⟨v0, vs0, d0, ds0, p0, q0, hargs, rfl, rfl, h0, r0⟩ := trodAll_cons hA
  obtain ⟨v1, vs1, d1, ds1, p1, q1, rfl, rfl, rfl, h1, r1⟩ := trodAll_cons r0
  obtain ⟨rfl, rfl, rfl⟩ := trodAll_nil r1
  obtain rfl : args = #[v0, v1] := by cases args; simp_all
  obtain ⟨rfl, rfl⟩ := trodVars_none hV
  have lt0 : ∀ x ∈ p0, x.block < W.heap.size := by obtain ⟨m, hm⟩ := h0; exact DataW.trod_lt m _ _ _ hm
  obtain ⟨A0, c0, l0, rfl, hc0, hr0, w0⟩ := opens44 (hval 0 44 v0 rfl rfl) h0
  obtain ⟨a1, rfl, rfl, rfl, w1⟩ := open_int Try.underlying3 (hval 1 3 v1 rfl rfl) h1
  clear hA0 hval0 hsz0
  refine (P.TimesyncRoot_walk A0 c0 l0 a1 W hr0 hc0 w0 w1).mono fun e W' ⟨he, bel⟩ => ?_
  subst he
  exact ⟨_, rfl, _, _, _, [], _, [], hW', trodAll_mk1 (shut_bool Try.underlying4 _), (trodAll_cons_mk (Below.trod laidOut (by kernel_rfl) (of_decide_eq_true (by kernel_rfl)) h0 bel lt0) (trodAll_cons_mk (shut_int Try.underlying3 w1) trodAll_mk0)), rfl, bel.frame _, fun h => by cases h⟩
theorem over : Rows.timesyncRootRow.holds Try.pinned (OpenSpec.ofChange Rows.timesyncRootSpec) :=
  OpenClaim.holds_of_wide 8 Try.f8 rfl rfl rfl rfl rfl rfl rfl ⟨rfl, rfl, rfl, rfl, rfl⟩ rfl rfl rfl rfl rfl (by kernel_rfl) Try.func8 (by kernel_rfl)
    (of_decide_eq_true (by kernel_rfl)) (by unfold Func.isWrapper; first | (rw [if_pos (by decide +kernel)]; kernel_rfl) | (rw [if_neg (by decide +kernel)]; exact ⟨rfl, rfl⟩))
    (fun os started H enc _ => lifted os started H enc)
theorem proved : Rows.TimesyncRootSaid := over
end Go.Proofs.Ytkbfhonoamgjgaa.timesyncRoot
namespace Go.Proofs.Ytkbfhonoamgjgaa
theorem timesyncRoot_holds : Rows.TimesyncRootSaid := timesyncRoot.proved
#print axioms timesyncRoot_holds
end Go.Proofs.Ytkbfhonoamgjgaa
end
