/- A claim's own texts, laid together by wip/zip.py without what the claim does not use. Conditions: none. -/
import Derived.Test.YtdpihbhkghjclaaZcpx14
import Derived.Test.YtdpihbhkghjclaaZcpx16
import Derived.Test.YtdpihbhkghjclaaZcpx17
import Derived.Test.YtdpihbhkghjclaaZcpx8
import Derived.Test.YtdpihbhkghjclaaZcpx15
import Derived.Test.YtdpihbhkghjclaaZcpx18
import Derived.Test.YtdpihbhkghjclaaZcpx5
import Derived.Test.YtdpihbhkghjclaaZcpx64
import Derived.Test.YtdpihbhkghjclaaZcpx23
import Derived.Test.YtdpihbhkghjclaaZcpx51
import Derived.Test.YtdpihbhkghjclaaZcpx21
import Derived.Test.YtdpihbhkghjclaaZcpx25
import Derived.Test.YtdpihbhkghjclaaZcpx27
import Derived.Test.YtdpihbhkghjclaaZcpx28
import Derived.Test.YtdpihbhkghjclaaZcpx29
import Derived.Test.YtdpihbhkghjclaaZcpx0
import Derived.Test.YtdpihbhkghjclaaZcpx36
import Derived.Test.YtdpihbhkghjclaaZcpx48
import Derived.Test.YtdpihbhkghjclaaZcpx62
import Derived.Test.YtdpihbhkghjclaaZcpx63
import Derived.Test.YtdpihbhkghjclaaZcpx65
import Derived.Test.YtdpihbhkghjclaaZcpx60
import Derived.Test.YtdpihbhkghjclaaRows
import Derived.Test.YtdpihbhkghjclaaZcopen
import Derived.WalkKit
import Derived.ProofKit
import Derived.OpenShut
import Derived.ShutString
import Derived.ChangeOld
import Derived.Below
import Derived.SizedLaws
import Derived.Carry
section
/- Plain laws of what the printed functions compute. Conditions: none. -/
namespace Go.Proofs.Ytdpihbhkghjclaa.P
open Go.RowKit Go.Proofs.YtdpihbhkghjclaaW.PrintWords Go.Proofs.YtdpihbhkghjclaaW.PrintLast Go.Proofs.YtdpihbhkghjclaaW.PrintMore
set_option linter.unusedVariables false
set_option linter.unusedSimpArgs false
theorem w64 {x : Int} (h : -9223372036854775808 ≤ x ∧ x ≤ 9223372036854775807) : wrap64 x = x := by
  unfold wrap64
  omega
theorem asc3 (k : Nat) (a b c : Int) : bound_ascending.f (k + 4) [a, b, c] = some (decide (a ≤ b ∧ b ≤ c)) := by
  by_cases h1 : b < a <;> by_cases h2 : c < b <;> simp [bound_ascending.f, bound_ascending.l0, wrap64, rd, h1, h2] <;> omega
theorem asc4 (k : Nat) (a b c d : Int) : bound_ascending.f (k + 5) [a, b, c, d] = some (decide (a ≤ b ∧ b ≤ c ∧ c ≤ d)) := by
  by_cases h1 : b < a <;> by_cases h2 : c < b <;> by_cases h3 : d < c <;> simp [bound_ascending.f, bound_ascending.l0, wrap64, rd, h1, h2, h3] <;> omega
/-- A valid span. -/
def VP (l h a : Int) : Prop := -20000000000000 ≤ l ∧ l ≤ h ∧ h ≤ 20000000000000 ∧ -2000000000 ≤ a ∧ a ≤ 20000000000000
instance (l h a : Int) : Decidable (VP l h a) := by unfold VP; exact inferInstance
/-- By how much a span grows after e microseconds. -/
def MO (e : Int) : Int := (51 * e + 999999) / 1000000 + 1
theorem valid_eq (k : Nat) (l h a : Int) : bound_span_valid.f (k + 5) l h a = some (decide (VP l h a)) := by
  unfold bound_span_valid.f VP
  rw [asc4, asc3 (k + 1)]
  by_cases h1 : (-20000000000000 ≤ l ∧ l ≤ h ∧ h ≤ 20000000000000) <;> by_cases h2 : (-2000000000 ≤ a ∧ a ≤ 20000000000000) <;> simp [h1, h2] <;> omega
def G (l h a now : Int) : Int × Int × Int × Int :=
  if VP l h a ∧ a ≤ now ∧ now ≤ 20000000000000 then (if VP (l - MO (now - a)) (h + MO (now - a)) now then (l - MO (now - a), h + MO (now - a), now, 0) else (0, 0, 0, 3)) else (0, 0, 0, 1)
theorem more_eq {e : Int} (h0 : 0 ≤ e) (h1 : e ≤ 40000000000000) : wrap64 ((wrap64 (Int.tdiv (wrap64 ((wrap64 ((wrap64 (51 * (wrap64 e))) + 1000000)) - 1)) 1000000)) + 1) = MO e := by
  rw [w64 (x := e) (by omega), w64 (x := 51 * e) (by omega), w64 (x := 51 * e + 1000000) (by omega), w64 (x := 51 * e + 1000000 - 1) (by omega), Int.tdiv_eq_ediv_of_nonneg (by omega), w64 (x := (51 * e + 1000000 - 1) / 1000000) (by omega), w64 (by omega)]
  unfold MO
  omega
theorem grow_eq (k : Nat) (l h a now : Int) : bound_span_grow.f (k + 6) l h a now = some (G l h a now) := by
  unfold bound_span_grow.f G
  rw [show k + 6 = (k + 1) + 5 from rfl, valid_eq, show k + 1 + 5 = (k + 2) + 4 from rfl, asc3]
  by_cases h1 : VP l h a
  · by_cases h2 : a ≤ now ∧ now ≤ 20000000000000
    · have h3 := h1
      unfold VP at h3
      simp only [h1, h2, Option.bind_some, decide_true, if_true, and_self, Bool.not_true, bound_span_grow.j0, Bool.false_eq_true, if_false]
      rw [more_eq (by omega) (by omega)]
      have hm : 0 ≤ MO (now - a) ∧ MO (now - a) ≤ 3000000000 := by unfold MO; omega
      rw [w64 (x := l - MO (now - a)) (by omega), w64 (x := h + MO (now - a)) (by omega), show k + 5 = k + 5 from rfl, valid_eq]
      by_cases h4 : VP (l - MO (now - a)) (h + MO (now - a)) now <;> simp [h4]
    · simp [h1, h2, bound_span_grow.j0]
  · simp [h1, bound_span_grow.j0]
theorem Grow_eq (k : Nat) (l h a now : Int) : bound_Grow.f (k + 6) l h a now = some (G l h a now) := by
  unfold bound_Grow.f; rw [grow_eq]; rfl
/-- By how much a span at the time a grows when it meets one at the time b. -/
def dl (a b : Int) : Int := if b < a then 0 else MO (b - a)
def M (a0 a1 a2 b0 b1 b2 : Int) : Int × Int × Int × Int :=
  if VP a0 a1 a2 ∧ VP b0 b1 b2 then
    (if VP (a0 - dl a2 b2) (a1 + dl a2 b2) (mx a2 b2) ∧ VP (b0 - dl b2 a2) (b1 + dl b2 a2) (mx a2 b2) then
      (if mx (a0 - dl a2 b2) (b0 - dl b2 a2) > mn (a1 + dl a2 b2) (b1 + dl b2 a2) then (0, 0, 0, 16) else (mx (a0 - dl a2 b2) (b0 - dl b2 a2), mn (a1 + dl a2 b2) (b1 + dl b2 a2), mx a2 b2, 0))
     else (0, 0, 0, 3))
  else (0, 0, 0, 1)
theorem mx_comm' (a b : Int) : mx a b = mx b a := by unfold mx; split <;> split <;> omega
theorem mn_comm' (a b : Int) : mn a b = mn b a := by unfold mn; split <;> split <;> omega
theorem M_comm (a0 a1 a2 b0 b1 b2 : Int) : M a0 a1 a2 b0 b1 b2 = M b0 b1 b2 a0 a1 a2 := by
  unfold M
  rw [mx_comm' a2 b2, mx_comm' (a0 - dl a2 b2), mn_comm' (a1 + dl a2 b2)]
  by_cases h1 : VP a0 a1 a2 <;> by_cases h2 : VP b0 b1 b2 <;> by_cases h3 : VP (a0 - dl a2 b2) (a1 + dl a2 b2) (mx b2 a2) <;> by_cases h4 : VP (b0 - dl b2 a2) (b1 + dl b2 a2) (mx b2 a2) <;> simp [h1, h2, h3, h4]
theorem core_eq (k : Nat) (x0 x1 x2 y0 y1 y2 : Int) (hx : VP x0 x1 x2) (hy : VP y0 y1 y2) (h : x2 ≤ y2) : bound_Meet.core (k + 6) x0 x1 x2 y0 y1 y2 = some (M x0 x1 x2 y0 y1 y2) := by
  unfold bound_Meet.core
  rw [grow_eq, grow_eq]
  have hx' := hx
  have hy' := hy
  unfold VP at hx' hy'
  have hm : mx x2 y2 = y2 := by unfold mx; split <;> omega
  have hd : dl x2 y2 = MO (y2 - x2) := by unfold dl; rw [if_neg (by omega)]
  have hG : G x0 x1 x2 y2 = if VP (x0 - MO (y2 - x2)) (x1 + MO (y2 - x2)) y2 then (x0 - MO (y2 - x2), x1 + MO (y2 - x2), y2, 0) else (0, 0, 0, 3) := by unfold G; rw [if_pos ⟨hx, h, by omega⟩]
  by_cases h2 : x2 = y2
  · subst h2
    have hd2 : dl x2 x2 = MO 0 := by unfold dl; rw [if_neg (by omega), Int.sub_self]
    have hG2 : G y0 y1 x2 x2 = if VP (y0 - MO 0) (y1 + MO 0) x2 then (y0 - MO 0, y1 + MO 0, x2, 0) else (0, 0, 0, 3) := by unfold G; rw [if_pos ⟨hy, by omega, by omega⟩, Int.sub_self]
    rw [Int.sub_self] at hG
    unfold M
    rw [if_pos ⟨hx, hy⟩, hm, hd2, hG, hG2]
    by_cases h1 : VP (x0 - MO 0) (x1 + MO 0) x2
    · by_cases h3 : VP (y0 - MO 0) (y1 + MO 0) x2
      · rw [if_pos h1, if_pos h3, if_pos ⟨h1, h3⟩]
        simp only [Option.bind_some, if_true, bound_Meet.fin]
        split <;> rfl
      · rw [if_pos h1, if_neg h3, if_neg (fun h => h3 h.2)]
        simp [bound_Meet.fin]
    · rw [if_neg h1, if_neg (show ¬ (VP (x0 - MO 0) (x1 + MO 0) x2 ∧ VP (y0 - MO 0) (y1 + MO 0) x2) from fun h => h1 h.1)]
      simp [bound_Meet.fin]
  · have hd2 : dl y2 x2 = 0 := by unfold dl; rw [if_pos (by omega)]
    unfold M
    rw [if_pos ⟨hx, hy⟩, hm, hd, hd2, hG]
    have hy2 : VP (y0 - 0) (y1 + 0) y2 := by rw [Int.sub_zero, Int.add_zero]; exact hy
    by_cases h1 : VP (x0 - MO (y2 - x2)) (x1 + MO (y2 - x2)) y2
    · rw [if_pos h1, if_pos ⟨h1, hy2⟩, Int.sub_zero, Int.add_zero]
      simp only [Option.bind_some, if_neg h2, if_true, bound_Meet.fin]
      split <;> rfl
    · rw [if_neg h1, if_neg (fun h => h1 h.1)]
      simp [bound_Meet.fin, h2]
theorem Meet_eq (k : Nat) (a0 a1 a2 b0 b1 b2 : Int) : bound_Meet.f (k + 6) a0 a1 a2 b0 b1 b2 = some (M a0 a1 a2 b0 b1 b2) := by
  unfold bound_Meet.f
  rw [show k + 6 = (k + 1) + 5 from rfl, valid_eq, valid_eq]
  by_cases h1 : VP a0 a1 a2
  · by_cases h2 : VP b0 b1 b2
    · simp only [h1, h2, Option.bind_some, decide_true, if_true]
      by_cases h3 : a2 > b2
      · rw [if_pos h3, show k + 1 + 5 = k + 6 from rfl, core_eq k b0 b1 b2 a0 a1 a2 h2 h1 (by omega), M_comm]
      · rw [if_neg h3, show k + 1 + 5 = k + 6 from rfl, core_eq k a0 a1 a2 b0 b1 b2 h1 h2 (by omega)]
    · simp [h1, h2, M]
  · simp [h1, M]
def HD (bnd asn loc : Int) : Int × Int × Int × Int :=
  if (0 ≤ asn ∧ asn ≤ 1000000000) ∧ (0 ≤ bnd ∧ bnd ≤ 2000) ∧ (-2000000000 ≤ loc ∧ loc ≤ 20000000000000) then (asn * 10000 - loc - bnd, asn * 10000 - loc + bnd, loc, 0) else (0, 0, 0, 1)
theorem Heard_eq (k : Nat) (fr ho bnd asn loc : Int) : bound_Heard.f (k + 6) fr ho bnd asn loc = some (HD bnd asn loc) := by
  unfold bound_Heard.f HD
  rw [show k + 6 = (k + 2) + 4 from rfl, asc3, asc3, asc3]
  by_cases h1 : (0 ≤ asn ∧ asn ≤ 1000000000)
  · by_cases h2 : (0 ≤ bnd ∧ bnd ≤ 2000)
    · by_cases h3 : (-2000000000 ≤ loc ∧ loc ≤ 20000000000000)
      · simp only [h1, h2, h3, and_self, decide_true, Option.bind_some, if_true]
        rw [w64 (x := asn * 10000) (by omega), w64 (x := asn * 10000 - loc) (by omega), w64 (by omega), w64 (by omega)]
      · simp [h1, h2, h3]
    · simp [h1, h2]
  · simp [h1]
def WD (l h a : Int) : Int := if VP l h a then h - l else -1
theorem Width_eq (k : Nat) (l h a : Int) : bound_Width.f (k + 6) l h a = some (WD l h a) := by
  unfold bound_Width.f bound_Valid.f WD
  rw [show k + 6 = (k + 1) + 5 from rfl, valid_eq]
  by_cases h1 : VP l h a
  · have h2 := h1
    unfold VP at h2
    simp only [h1, Option.bind_some, decide_true, if_true]
    rw [w64 (by omega)]
  · simp [h1]
end Go.Proofs.Ytdpihbhkghjclaa.P
end
section
/- Plain laws of the functions of package timesync. Conditions: none. -/
namespace Go.Proofs.Ytdpihbhkghjclaa.P
open Go.RowKit Go.Proofs.YtdpihbhkghjclaaW.PrintWords Go.Proofs.YtdpihbhkghjclaaW.PrintLast Go.Proofs.YtdpihbhkghjclaaW.PrintMore
set_option linter.unusedVariables false
set_option linter.unusedSimpArgs false
/-- A valid state. -/
def SV (sy : Bool) (l h a ho so he : Int) : Prop := (-1 ≤ so ∧ so < 60 ∧ 0 ≤ he ∧ he ≤ 1000000000) ∧ (if sy = true then ho = 0 ∨ (1 ≤ ho ∧ ho ≤ 60 ∧ VP l h a) else ho = 60)
instance (sy : Bool) (l h a ho so he : Int) : Decidable (SV sy l h a ho so he) := by unfold SV; exact inferInstance
theorem svalid_eq (k : Nat) (sy : Bool) (l h a ho so he : Int) : timesync_state_valid.f (k + 6) sy l h a ho so he = some (decide (SV sy l h a ho so he)) := by
  have hj : ∀ b, timesync_state_valid.j0 (k + 6) b sy l h a ho so he = some (!b && decide (if sy = true then ho = 0 ∨ (1 ≤ ho ∧ ho ≤ 60 ∧ VP l h a) else ho = 60)) := by
    intro b
    rw [show k + 6 = (k + 5) + 1 from rfl]
    simp only [timesync_state_valid.j0, timesync_state_root.f, bound_Valid.f, valid_eq]
    cases b <;> cases sy <;> simp
    · by_cases h1 : ho = 60 <;> simp [h1]
    · by_cases h1 : ho = 0
      · simp [h1]
      · by_cases h2 : 1 ≤ ho <;> by_cases h3 : ho ≤ 60 <;> by_cases h4 : VP l h a <;> simp [h1, h2, h3, h4]
  unfold timesync_state_valid.f
  by_cases h1 : so < -1
  · rw [if_pos h1, hj, decide_eq_false (show ¬ SV sy l h a ho so he from fun hh => by have := hh.1; omega)]; rfl
  · by_cases h2 : so ≥ 60
    · rw [if_neg h1, if_pos h2, hj, decide_eq_false (show ¬ SV sy l h a ho so he from fun hh => by have := hh.1; omega)]; rfl
    · by_cases h3 : he < 0
      · rw [if_neg h1, if_neg h2, if_pos h3, hj, decide_eq_false (show ¬ SV sy l h a ho so he from fun hh => by have := hh.1; omega)]; rfl
      · rw [if_neg h1, if_neg h2, if_neg h3, hj]
        by_cases h4 : he > 1000000000
        · rw [decide_eq_false (show ¬ SV sy l h a ho so he from fun hh => by have := hh.1; omega), decide_eq_true h4]; rfl
        · have h5 : (-1 ≤ so ∧ so < 60 ∧ 0 ≤ he ∧ he ≤ 1000000000) := by omega
          unfold SV
          rw [decide_eq_false h4]
          simp [h5]
/-- Is a hint taken? -/
def TK (sy : Bool) (ho so fr hh : Int) : Prop := ¬ (sy = true ∧ ho = 0) ∧ (sy = false ∨ hh < ho ∨ fr = so)
instance (sy : Bool) (ho so fr hh : Int) : Decidable (TK sy ho so fr hh) := by unfold TK; exact inferInstance
theorem takes_eq (sy : Bool) (l h a ho so he fr hh bnd asn loc : Int) : timesync_state_takes.f sy l h a ho so he fr hh bnd asn loc = some (decide (TK sy ho so fr hh)) := by
  unfold timesync_state_takes.f timesync_state_root.f TK
  cases sy
  · simp
  · by_cases h1 : ho = 0
    · simp [h1]
    · by_cases h2 : hh < ho <;> by_cases h3 : fr = so <;> simp [h1, h2, h3]
abbrev T8 := Bool × Int × Int × Int × Int × Int × Int × Int
/-- What Hear answers. -/
def HE (sy : Bool) (l h a ho so he fr hh bnd asn loc : Int) : T8 :=
  if SV sy l h a ho so he ∧ (HD bnd asn loc).2.2.2 = 0 ∧ (0 ≤ fr ∧ fr < 60) ∧ (0 ≤ hh ∧ hh < 60) then
    (if TK sy ho so fr hh then
      (if sy = true then
        (if (M l h a (HD bnd asn loc).1 (HD bnd asn loc).2.1 (HD bnd asn loc).2.2.1).2.2.2 = 0 then (true, (M l h a (HD bnd asn loc).1 (HD bnd asn loc).2.1 (HD bnd asn loc).2.2.1).1, (M l h a (HD bnd asn loc).1 (HD bnd asn loc).2.1 (HD bnd asn loc).2.2.1).2.1, (M l h a (HD bnd asn loc).1 (HD bnd asn loc).2.1 (HD bnd asn loc).2.2.1).2.2.1, hh + 1, fr, asn, 0)
         else (sy, l, h, a, ho, so, he, (M l h a (HD bnd asn loc).1 (HD bnd asn loc).2.1 (HD bnd asn loc).2.2.1).2.2.2))
       else (true, (HD bnd asn loc).1, (HD bnd asn loc).2.1, (HD bnd asn loc).2.2.1, hh + 1, fr, asn, 0))
     else (sy, l, h, a, ho, so, he, 0))
  else (sy, l, h, a, ho, so, he, 1)
theorem HD_err (bnd asn loc : Int) : (HD bnd asn loc).2.2.2 = 0 ∨ (HD bnd asn loc).2.2.2 = 1 := by unfold HD; split <;> simp
theorem Hear_eq (k : Nat) (sy : Bool) (l h a ho so he fr hh bnd asn loc : Int) : timesync_Hear.f (k + 6) sy l h a ho so he fr hh bnd asn loc = some (HE sy l h a ho so he fr hh bnd asn loc) := by
  unfold timesync_Hear.f HE
  rw [Heard_eq, svalid_eq, takes_eq]
  simp only [Option.bind_some, Meet_eq]
  by_cases h1 : SV sy l h a ho so he
  · rw [decide_eq_true h1, if_pos rfl]
    rcases HD_err bnd asn loc with h2 | h2
    · rw [if_neg (by omega)]
      by_cases c1 : fr < 0
      · rw [if_pos c1, if_neg (by omega)]
      · by_cases c2 : fr ≥ 60
        · rw [if_neg c1, if_pos c2, if_neg (by omega)]
        · by_cases c3 : hh < 0
          · rw [if_neg c1, if_neg c2, if_pos c3, if_neg (by omega)]
          · by_cases c4 : hh ≥ 60
            · rw [if_neg c1, if_neg c2, if_neg c3, if_pos c4, if_neg (by omega)]
            · rw [if_neg c1, if_neg c2, if_neg c3, if_neg c4, if_pos (show SV sy l h a ho so he ∧ (HD bnd asn loc).2.2.2 = 0 ∧ (0 ≤ fr ∧ fr < 60) ∧ (0 ≤ hh ∧ hh < 60) from ⟨h1, h2, by omega, by omega⟩), w64 (x := hh + 1) (by omega)]
              by_cases c5 : TK sy ho so fr hh
              · rw [decide_eq_true c5, if_pos c5]
                simp only [if_true]
                by_cases c6 : sy = true
                · rw [if_pos c6, if_pos c6]; split <;> rfl
                · rw [if_neg c6, if_neg c6]
              · rw [decide_eq_false c5, if_neg c5]; rfl
    · rw [if_pos h2, if_neg (by omega)]
  · rw [decide_eq_false h1, if_neg (show ¬ (SV sy l h a ho so he ∧ (HD bnd asn loc).2.2.2 = 0 ∧ (0 ≤ fr ∧ fr < 60) ∧ (0 ≤ hh ∧ hh < 60)) from fun q => h1 q.1)]; rfl
/-- What Bound answers. -/
def BO (sy : Bool) (l h a ho so he now : Int) : Int × Int :=
  if SV sy l h a ho so he then
    (if sy = true then (if ho = 0 then (0, 0) else if (G l h a now).2.2.2 = 0 then (if ((G l h a now).2.1 - (G l h a now).1 + 1) / 2 > 2000 then (0, 16) else (((G l h a now).2.1 - (G l h a now).1 + 1) / 2, 0)) else (0, (G l h a now).2.2.2)) else (0, 16))
  else (0, 1)
theorem G_form (l h a now : Int) : (G l h a now = (l - MO (now - a), h + MO (now - a), now, 0) ∧ VP l h a ∧ a ≤ now ∧ now ≤ 20000000000000 ∧ VP (l - MO (now - a)) (h + MO (now - a)) now) ∨ (G l h a now = (0, 0, 0, 3)) ∨ (G l h a now = (0, 0, 0, 1) ∧ ¬ (VP l h a ∧ a ≤ now ∧ now ≤ 20000000000000)) := by
  unfold G
  split
  · rename_i h1
    split
    · rename_i h2; exact .inl ⟨rfl, h1.1, h1.2.1, h1.2.2, h2⟩
    · exact .inr (.inl rfl)
  · rename_i h1; exact .inr (.inr ⟨rfl, h1⟩)
theorem Bound_eq (k : Nat) (sy : Bool) (l h a ho so he now : Int) : timesync_Bound.f (k + 6) sy l h a ho so he now = some (BO sy l h a ho so he now) := by
  unfold timesync_Bound.f BO timesync_state_root.f
  rw [svalid_eq, Grow_eq]
  by_cases h1 : SV sy l h a ho so he
  · rw [decide_eq_true h1, if_pos h1]
    cases sy
    · simp
    · by_cases h2 : ho = 0
      · simp [h2]
      · simp only [Option.bind_some, if_true, h2, beq_iff_eq, if_false]
        rcases G_form l h a now with ⟨e, _, _, _, hv⟩ | e | ⟨e, _⟩
        · rw [e]
          simp only [if_true]
          rw [Width_eq]
          have hw : WD (l - MO (now - a)) (h + MO (now - a)) now = h + MO (now - a) - (l - MO (now - a)) := by unfold WD; rw [if_pos hv]
          unfold VP at hv
          rw [hw]
          simp only [Option.bind_some]
          have hd : 0 ≤ h + MO (now - a) - (l - MO (now - a)) ∧ h + MO (now - a) - (l - MO (now - a)) ≤ 40000000000000 := by omega
          generalize h + MO (now - a) - (l - MO (now - a)) = d at *
          rw [w64 (x := d + 1) (by omega), Int.tdiv_eq_ediv_of_nonneg (by omega), w64 (by omega)]
          split <;> rfl
        · rw [e]; simp
        · rw [e]; simp
  · rw [decide_eq_false h1, if_neg h1]; rfl
/-- What Tick answers. -/
def TI (sy : Bool) (l h a ho so he now : Int) : Bool × Int × Int × Int × Int × Int × Int :=
  if SV sy l h a ho so he ∧ sy = true ∧ (BO sy l h a ho so he now).2 ≠ 0 then (false, 0, 0, 0, 60, -1, 0) else (sy, l, h, a, ho, so, he)
theorem Tick_eq (k : Nat) (sy : Bool) (l h a ho so he now : Int) : timesync_Tick.f (k + 6) sy l h a ho so he now = some (TI sy l h a ho so he now) := by
  unfold timesync_Tick.f TI timesync_Start.f
  rw [Bound_eq, svalid_eq]
  cases sy
  · simp
  · by_cases h1 : SV true l h a ho so he
    · by_cases h2 : (BO true l h a ho so he now).2 = 0
      · simp [h1, h2]
      · simp [h1, h2]
    · simp [h1]
end Go.Proofs.Ytdpihbhkghjclaa.P
end
section
/- Plain laws of what a clock shows. Conditions: none. -/
namespace Go.Proofs.Ytdpihbhkghjclaa.P
open Go.RowKit Go.Proofs.YtdpihbhkghjclaaW.PrintWords Go.Proofs.YtdpihbhkghjclaaW.PrintLast Go.Proofs.YtdpihbhkghjclaaW.PrintMore
set_option linter.unusedVariables false
set_option linter.unusedSimpArgs false
theorem mul_bd {d t : Int} (h1 : -50 ≤ d) (h2 : d ≤ 50) (ht : 0 ≤ t) : -50 * t ≤ d * t ∧ d * t ≤ 50 * t :=
  ⟨Int.mul_le_mul_of_nonneg_right h1 ht, Int.mul_le_mul_of_nonneg_right h2 ht⟩
theorem mul_df {d x y : Int} (h1 : -50 ≤ d) (h2 : d ≤ 50) (h : x ≤ y) : -50 * (y - x) ≤ d * y - d * x ∧ d * y - d * x ≤ 50 * (y - x) := by
  have := mul_bd h1 h2 (t := y - x) (by omega)
  rw [Int.mul_sub d] at this
  exact this
/-- What a clock shows. -/
def AT (off d t : Int) : Int := t + off + (d * t) / 1000000
def CV (off d : Int) : Prop := -1000000000 ≤ off ∧ off ≤ 1000000000 ∧ -50 ≤ d ∧ d ≤ 50
instance (off d : Int) : Decidable (CV off d) := by unfold CV; exact inferInstance
theorem floor_eq (p : Int) : (if Int.tmod p 1000000 < 0 then Int.tdiv p 1000000 - 1 else Int.tdiv p 1000000) = p / 1000000 := by
  by_cases h : 0 ≤ p
  · rw [Int.tmod_eq_emod_of_nonneg h, Int.tdiv_eq_ediv_of_nonneg h, if_neg (by omega)]
  · obtain ⟨q, rfl⟩ : ∃ q, p = -q := ⟨-p, by omega⟩
    rw [Int.neg_tmod, Int.neg_tdiv, Int.tmod_eq_emod_of_nonneg (by omega), Int.tdiv_eq_ediv_of_nonneg (by omega)]
    split <;> omega
theorem at_eq {off d t : Int} (hv : CV off d) (h0 : 0 ≤ t) (h1 : t ≤ 10000000000000) : clock_clock_at.f off d t = some (AT off d t) := by
  unfold CV at hv
  have hb := mul_bd hv.2.2.1 hv.2.2.2 h0
  have hf := floor_eq (d * t)
  unfold clock_clock_at.f AT
  rw [w64 (x := d * t) (by omega), w64 (x := t + off) (by omega)]
  generalize d * t = p at *
  by_cases h : Int.tmod p 1000000 < 0
  · rw [if_pos h] at hf ⊢
    rw [w64 (x := Int.tdiv p 1000000) (by omega), hf, w64 (x := p / 1000000) (by omega), w64 (by omega)]
  · rw [if_neg h] at hf ⊢
    rw [hf, w64 (x := p / 1000000) (by omega), w64 (by omega)]
theorem cvalid_eq (off d : Int) : clock_Valid.f off d = some (decide (CV off d)) := by
  unfold clock_Valid.f clock_in.f CV
  rw [w64 (x := -1000000000) (by omega), w64 (x := -50) (by omega)]
  by_cases h1 : off ≥ -1000000000 <;> by_cases h2 : off ≤ 1000000000 <;> by_cases h3 : d ≥ -50 <;> by_cases h4 : d ≤ 50 <;> simp [h1, h2, h3, h4] <;> omega
theorem Show_eq (off d t : Int) : clock_Show.f off d t = some (if CV off d ∧ 0 ≤ t ∧ t ≤ 10000000000000 then (AT off d t, 0) else (0, 1)) := by
  unfold clock_Show.f
  rw [cvalid_eq]
  by_cases h1 : CV off d
  · by_cases h2 : t < 0
    · rw [if_neg (show ¬ (CV off d ∧ 0 ≤ t ∧ t ≤ 10000000000000) from fun hh => by omega), decide_eq_true h1]
      simp only [Option.bind_some, if_true]
      rw [if_pos h2]
    · by_cases h3 : t > 10000000000000
      · rw [if_neg (show ¬ (CV off d ∧ 0 ≤ t ∧ t ≤ 10000000000000) from fun hh => by omega), decide_eq_true h1]
        simp only [Option.bind_some, if_true]
        rw [if_neg h2, if_pos h3]
      · rw [if_pos (show CV off d ∧ 0 ≤ t ∧ t ≤ 10000000000000 from ⟨h1, by omega, by omega⟩), decide_eq_true h1]
        simp only [Option.bind_some, if_true]
        rw [if_neg h2, if_neg h3, at_eq h1 (by omega) (by omega)]
        rfl
  · rw [if_neg (show ¬ (CV off d ∧ 0 ≤ t ∧ t ≤ 10000000000000) from fun hh => h1 hh.1), decide_eq_false h1]
    rfl
theorem True_eq (l h a t s : Int) (hb : -9000000000000000000 ≤ t - s ∧ t - s ≤ 9000000000000000000) : R8_True.f l h a t s = some (decide (a = s ∧ l ≤ t - s ∧ t - s ≤ h)) := by
  unfold R8_True.f
  rw [w64 (x := t - s) (by omega)]
  by_cases h1 : a = s <;> by_cases h2 : t - s ≥ l <;> by_cases h3 : t - s ≤ h <;> simp [h1, h2, h3] <;> omega
/-- What a clock shows lies near the true time, and runs with it. -/
theorem AT_near {off d t : Int} (hv : CV off d) (h0 : 0 ≤ t) (h1 : t ≤ 10000000000000) : -1500000001 ≤ AT off d t - t ∧ AT off d t - t ≤ 1500000001 ∧ -2000000000 ≤ AT off d t ∧ AT off d t ≤ 20000000000000 := by
  unfold CV at hv
  have hb := mul_bd hv.2.2.1 hv.2.2.2 h0
  unfold AT
  generalize d * t = p at *
  omega
theorem AT_mono {off d x y : Int} (hv : CV off d) (h : x ≤ y) : AT off d x ≤ AT off d y := by
  unfold CV at hv
  have hb := mul_df hv.2.2.1 hv.2.2.2 h
  unfold AT
  generalize d * x = p at *
  generalize d * y = q at *
  omega
/-- Growing keeps a span true. -/
theorem AT_grow {off d x y : Int} (hv : CV off d) (h : x ≤ y) : -(MO (AT off d y - AT off d x)) ≤ (y - AT off d y) - (x - AT off d x) ∧ (y - AT off d y) - (x - AT off d x) ≤ MO (AT off d y - AT off d x) := by
  unfold CV at hv
  have hb := mul_df hv.2.2.1 hv.2.2.2 h
  unfold AT MO
  generalize d * x = p at *
  generalize d * y = q at *
  omega
end Go.Proofs.Ytdpihbhkghjclaa.P
end
section
/- Plain laws of the functions of package guard. Conditions: none. -/
namespace Go.Proofs.Ytdpihbhkghjclaa.P
open Go.RowKit Go.Proofs.YtdpihbhkghjclaaW.PrintWords Go.Proofs.YtdpihbhkghjclaaW.PrintLast Go.Proofs.YtdpihbhkghjclaaW.PrintMore
set_option linter.unusedVariables false
set_option linter.unusedSimpArgs false
theorem AT_step {off d t : Int} (hv : CV off d) : 0 ≤ AT off d (t + 1) - AT off d t ∧ AT off d (t + 1) - AT off d t ≤ 2 := by
  unfold CV at hv
  have hb := mul_df hv.2.2.1 hv.2.2.2 (show t ≤ t + 1 by omega)
  unfold AT
  generalize d * t = p at *
  generalize d * (t + 1) = q at *
  omega
/-- The least true time at which a clock shows at least some time, or one behind the last. -/
def LT (off d least r : Int) : Prop := (0 ≤ r ∧ r ≤ 10000000000001) ∧ (∀ t, 0 ≤ t → t < r → AT off d t < least) ∧ (r ≤ 10000000000000 → least ≤ AT off d r)
theorem first_l0 {off d : Int} (hv : CV off d) (least : Int) : ∀ (k : Nat) (low high : Int), 0 ≤ low → low ≤ high → high ≤ 10000000000001 → high - low < 2 ^ k → (∀ t, 0 ≤ t → t < low → AT off d t < least) → (high ≤ 10000000000000 → least ≤ AT off d high) → ∃ r, clock_first.l0 (k + 1) off d low high least = some r ∧ LT off d least r := by
  intro k
  induction k with
  | zero =>
    intro low high h0 h1 h2 h3 h4 h5
    have e : low = high := by simp at h3; omega
    subst e
    refine ⟨low, ?_, ⟨h0, h2⟩, h4, h5⟩
    rw [clock_first.l0, if_neg (by omega)]
  | succ k ih =>
    intro low high h0 h1 h2 h3 h4 h5
    rw [Int.pow_succ] at h3
    by_cases c : low < high
    · rw [clock_first.l0, if_pos c, w64 (x := high - low) (by omega), Int.tdiv_eq_ediv_of_nonneg (by omega), w64 (x := (high - low) / 2) (by omega), w64 (x := low + (high - low) / 2) (by omega)]
      obtain ⟨mid, hm⟩ : ∃ mid, low + (high - low) / 2 = mid := ⟨_, rfl⟩
      rw [hm, at_eq hv (by omega) (by omega)]
      simp only [Option.bind_some]
      by_cases c2 : AT off d mid ≥ least
      · rw [if_pos c2]
        exact ih low mid h0 (by omega) (by omega) (by omega) h4 (fun _ => c2)
      · rw [if_neg c2, w64 (x := mid + 1) (by omega)]
        refine ih (mid + 1) high (by omega) (by omega) h2 (by omega) ?_ h5
        intro t t0 t1
        have := AT_mono hv (show t ≤ mid by omega)
        omega
    · have e : low = high := by omega
      subst e
      refine ⟨low, ?_, ⟨h0, h2⟩, h4, h5⟩
      rw [clock_first.l0, if_neg c]
def FT (off d least : Int) : Int := (clock_first.l0 45 off d 0 10000000000001 least).getD 0
theorem FT_spec {off d : Int} (hv : CV off d) (least : Int) : LT off d least (FT off d least) ∧ ∀ k, clock_first.l0 (k + 45) off d 0 10000000000001 least = some (FT off d least) := by
  obtain ⟨r, hr, hl⟩ := first_l0 hv least 44 0 10000000000001 (by omega) (by omega) (by omega) (by decide) (fun t h0 h1 => by omega) (fun h => by omega)
  have e : FT off d least = r := by unfold FT; rw [hr]; rfl
  rw [e]
  refine ⟨hl, fun k => ?_⟩
  exact at_rounds (g := fun k => clock_first.l0 k off d 0 10000000000001 least) (fun k => clock_first.mono_l0 off d k 0 10000000000001 least) (show 44 + 1 ≤ k + 45 by omega) hr
theorem LT_uniq {off d least r s : Int} (h : LT off d least r) (k : LT off d least s) : r = s := by
  obtain ⟨a1, a2, a3⟩ := h
  obtain ⟨b1, b2, b3⟩ := k
  rcases Int.lt_trichotomy r s with c | c | c
  · have := b2 r a1.1 c
    have := a3 (by omega)
    omega
  · exact c
  · have := a2 s b1.1 c
    have := b3 (by omega)
    omega
theorem FT_eq {off d least r : Int} (hv : CV off d) (h : LT off d least r) : FT off d least = r := LT_uniq (FT_spec hv least).1 h
theorem FT_mono {off d x y : Int} (hv : CV off d) (h : x ≤ y) : FT off d x ≤ FT off d y := by
  obtain ⟨⟨a1, a2, a3⟩, _⟩ := FT_spec hv x
  obtain ⟨⟨b1, b2, b3⟩, _⟩ := FT_spec hv y
  by_cases c : FT off d x ≤ FT off d y
  · exact c
  · have := a2 (FT off d y) b1.1 (by omega)
    have := b3 (by omega)
    omega
/-- At the least time the clock shows the time that was asked, or one more; but at the time 0. -/
theorem FT_shows {off d x : Int} (hv : CV off d) (h0 : 0 < FT off d x) (h1 : FT off d x ≤ 10000000000000) : x ≤ AT off d (FT off d x) ∧ AT off d (FT off d x) ≤ x + 1 := by
  obtain ⟨⟨a1, a2, a3⟩, _⟩ := FT_spec hv x
  refine ⟨a3 h1, ?_⟩
  have hs := AT_step hv (t := FT off d x - 1)
  have hb := a2 (FT off d x - 1) (by omega) (by omega)
  rw [show FT off d x - 1 + 1 = FT off d x by omega] at hs
  omega
theorem When_eq {off d : Int} (hv : CV off d) (k : Nat) (x : Int) (hx : -9000000000000000000 ≤ x ∧ x ≤ 9000000000000000000) : clock_When.f (k + 45) off d x = some (if x < AT off d 0 then (0, 0, 4) else if x > AT off d 10000000000000 then (0, 0, 4) else if FT off d x > FT off d (x + 1) - 1 then (0, 0, 4) else (FT off d x, FT off d (x + 1) - 1, 0)) := by
  unfold clock_When.f
  have hb := (FT_spec hv (x + 1)).1.1
  rw [cvalid_eq, decide_eq_true hv, at_eq hv (by omega) (by omega), at_eq hv (by omega) (by omega), (FT_spec hv x).2, w64 (x := x + 1) (by omega), (FT_spec hv (x + 1)).2]
  simp only [Option.bind_some, if_true]
  rw [w64 (x := FT off d (x + 1) - 1) (by omega)]
  split
  · rfl
  · split
    · rfl
    · split <;> rfl
/-- When a slot begins: the least time, if there is one. -/
theorem begins_eq {off d : Int} (hv : CV off d) (k : Nat) (x : Int) (hx : -8000000000000000000 ≤ x ∧ x ≤ 8000000000000000000) : guard_Send.begins (k + 45) off d x = some (if FT off d x > 10000000000000 then (0, 3) else (FT off d x, 0)) := by
  have n0 := AT_near hv (show (0 : Int) ≤ 0 by omega) (by omega)
  have n1 := AT_near hv (show (0 : Int) ≤ 10000000000000 by omega) (by omega)
  obtain ⟨⟨a1, a2, a3⟩, _⟩ := FT_spec hv x
  obtain ⟨⟨b1, b2, b3⟩, _⟩ := FT_spec hv (x + 1)
  obtain ⟨⟨c1, c2, c3⟩, _⟩ := FT_spec hv (x + 1 + 1)
  unfold guard_Send.begins
  rw [Show_eq, if_pos ⟨hv, by omega, by omega⟩]
  simp only [Option.bind_some, if_true]
  by_cases g1 : x ≤ AT off d 0
  · have e : FT off d x = 0 := FT_eq hv ⟨by omega, fun t h0 h1 => by omega, fun _ => g1⟩
    rw [if_pos g1, e]; rfl
  rw [if_neg g1, When_eq hv k x (by omega), w64 (x := x + 1) (by omega), When_eq hv k (x + 1) (by omega)]
  simp only [Option.bind_some]
  rw [if_neg (show ¬ x < AT off d 0 by omega), if_neg (show ¬ x + 1 < AT off d 0 by omega)]
  by_cases g2 : x > AT off d 10000000000000
  · have e : FT off d x > 10000000000000 := by
      by_cases q : FT off d x ≤ 10000000000000
      · have := a3 q
        have := AT_mono hv q
        omega
      · omega
    rw [if_pos g2, if_pos (show x + 1 > AT off d 10000000000000 by omega), if_pos e]
    rfl
  rw [if_neg g2]
  have e1 : FT off d x ≤ 10000000000000 := by
    by_cases q : FT off d x ≤ 10000000000000
    · exact q
    · have := a2 10000000000000 (by omega) (by omega)
      omega
  have p0 : 0 < FT off d x := by
    by_cases q : FT off d x = 0
    · have := a3 e1
      rw [q] at this
      omega
    · omega
  have sh := FT_shows hv p0 e1
  rw [if_neg (show ¬ FT off d x > 10000000000000 by omega)]
  have m1 := FT_mono hv (show x ≤ x + 1 by omega)
  by_cases g3 : FT off d x > FT off d (x + 1) - 1
  · have e2 : FT off d (x + 1) = FT off d x := by omega
    rw [if_pos g3, if_pos rfl]
    have h3 := b3 (by omega)
    rw [e2] at h3
    have h4 := AT_mono hv e1
    rw [if_neg (show ¬ x + 1 > AT off d 10000000000000 by omega), e2]
    have e3 : ¬ FT off d x > FT off d (x + 1 + 1) - 1 := by
      intro q
      have := c3 (by omega)
      have := AT_mono hv (show FT off d (x + 1 + 1) ≤ FT off d x by omega)
      omega
    rw [if_neg e3]
    rfl
  · rw [if_neg g3]
    rfl
/-- What the clock has to show when a slot begins. -/
def OW (l h ho asn : Int) : Int := if ho > 0 then asn * 10000 - (l + h) / 2 else asn * 10000
theorem own_eq (sy : Bool) (l h a ho so he off d asn : Int) (hs : SV true l h a ho so he) (hn : 0 ≤ asn ∧ asn ≤ 1000000000) : guard_node_ownTime.f sy l h a ho so he off d asn = some (OW l h ho asn) := by
  unfold guard_node_ownTime.f OW
  rw [w64 (x := asn * 10000) (by omega)]
  by_cases c : ho > 0
  · have hv : VP l h a := by
      unfold SV at hs
      rw [if_pos rfl] at hs
      rcases hs.2 with q | q
      · omega
      · exact q.2.2
    unfold VP at hv
    rw [if_pos c, if_pos c, w64 (x := l + h) (by omega), w64 (by omega)]
  · rw [if_neg c, if_neg c]
/-- When a slot is begun, and the bound then. -/
def SL (sy : Bool) (l h a ho so he off d asn : Int) : Int × Int × Int :=
  if CV off d ∧ (0 ≤ asn ∧ asn < 1000000000) ∧ SV sy l h a ho so he then
    (if sy = true then
      (if (BO sy l h a ho so he (OW l h ho asn)).2 = 0 then (if FT off d (OW l h ho asn) > 10000000000000 then (0, 0, 3) else (FT off d (OW l h ho asn) - asn * 10000, (BO sy l h a ho so he (OW l h ho asn)).1, 0))
       else (0, 0, (BO sy l h a ho so he (OW l h ho asn)).2))
     else (0, 0, 16))
  else (0, 0, 1)
theorem hear_zero (sy : Bool) (l h a ho so he : Int) : (HE sy l h a ho so he 0 0 0 0 0).2.2.2.2.2.2.2 = 1 ↔ ¬ SV sy l h a ho so he := by
  have hd : HD 0 0 0 = (0, 0, 0, 0) := by unfold HD; rw [if_pos (by omega)]; rfl
  unfold HE
  rw [hd]
  constructor
  · intro e hs
    rw [if_pos ⟨hs, rfl, by omega, by omega⟩] at e
    split at e
    · rename_i ht
      split at e
      · rename_i hy
        have hv : VP l h a := by
          subst hy
          unfold SV at hs
          unfold TK at ht
          rw [if_pos rfl] at hs
          rcases hs.2 with q | q
          · exact absurd ⟨rfl, q⟩ ht.1
          · exact q.2.2
        have hz : VP 0 0 0 := by unfold VP; omega
        have hm : (M l h a 0 0 0).2.2.2 ≠ 1 := by
          unfold M
          rw [if_pos ⟨hv, hz⟩]
          split
          · split <;> simp
          · simp
        split at e
        · exact absurd e (by simp)
        · exact hm e
      · exact absurd e (by simp)
    · exact absurd e (by simp)
  · intro hs
    rw [if_neg (fun q => hs q.1)]
theorem OW_bound {l h a ho so he asn : Int} (hs : SV true l h a ho so he) (hn : 0 ≤ asn ∧ asn ≤ 1000000000) : -100000000000000 ≤ OW l h ho asn ∧ OW l h ho asn ≤ 100000000000000 := by
  unfold OW
  by_cases c : ho > 0
  · have hv : VP l h a := by
      unfold SV at hs
      rw [if_pos rfl] at hs
      rcases hs.2 with q | q
      · omega
      · exact q.2.2
    unfold VP at hv
    rw [if_pos c]
    omega
  · rw [if_neg c]; omega
theorem slot_eq (k : Nat) (sy : Bool) (l h a ho so he off d asn : Int) : guard_Send.slot (k + 51) sy l h a ho so he off d asn = some (SL sy l h a ho so he off d asn) := by
  unfold guard_Send.slot SL
  rw [cvalid_eq, show k + 51 = (k + 45) + 6 from rfl, Hear_eq]
  by_cases c1 : CV off d
  rotate_left
  · rw [decide_eq_false c1, if_neg (show ¬ (CV off d ∧ (0 ≤ asn ∧ asn < 1000000000) ∧ SV sy l h a ho so he) from fun q => c1 q.1)]; rfl
  rw [decide_eq_true c1]
  simp only [Option.bind_some, if_true]
  by_cases c2 : asn < 0
  · rw [if_pos c2, if_neg (show ¬ (CV off d ∧ (0 ≤ asn ∧ asn < 1000000000) ∧ SV sy l h a ho so he) from fun q => by omega)]
  rw [if_neg c2]
  by_cases c3 : asn ≥ 1000000000
  · rw [if_pos c3, if_neg (show ¬ (CV off d ∧ (0 ≤ asn ∧ asn < 1000000000) ∧ SV sy l h a ho so he) from fun q => by omega)]
  rw [if_neg c3]
  by_cases c4 : SV sy l h a ho so he
  rotate_left
  · rw [if_pos ((hear_zero sy l h a ho so he).2 c4), if_neg (show ¬ (CV off d ∧ (0 ≤ asn ∧ asn < 1000000000) ∧ SV sy l h a ho so he) from fun q => c4 q.2.2)]
  rw [if_neg (fun q => (hear_zero sy l h a ho so he).1 q c4), if_pos (show (CV off d ∧ (0 ≤ asn ∧ asn < 1000000000) ∧ SV sy l h a ho so he) from ⟨c1, ⟨by omega, by omega⟩, c4⟩)]
  cases sy
  · simp
  · simp only [if_true]
    rw [own_eq _ _ _ _ _ _ _ _ _ _ c4 (by omega)]
    simp only [Option.bind_some]
    rw [Bound_eq]
    simp only [Option.bind_some]
    have hw := OW_bound c4 (show 0 ≤ asn ∧ asn ≤ 1000000000 by omega)
    by_cases c5 : (BO true l h a ho so he (OW l h ho asn)).2 = 0
    · rw [if_pos c5, if_pos c5, show k + 45 + 6 = (k + 6) + 45 from rfl, begins_eq c1 (k + 6) _ (by omega)]
      simp only [Option.bind_some]
      have hf := (FT_spec c1 (OW l h ho asn)).1.1
      by_cases c6 : FT off d (OW l h ho asn) > 10000000000000
      · rw [if_pos c6, if_pos c6]; rfl
      · rw [if_neg c6, if_neg c6]
        simp only [if_true]
        rw [w64 (x := asn * 10000) (by omega), w64 (by omega)]
    · rw [if_neg c5, if_neg c5]
theorem Send_eq (k : Nat) (sy : Bool) (l h a ho so he off d asn : Int) : guard_Send.f (k + 51) sy l h a ho so he off d asn = some (if (SL sy l h a ho so he off d asn).2.2 = 0 then ((SL sy l h a ho so he off d asn).1, 0) else (0, (SL sy l h a ho so he off d asn).2.2)) := by
  unfold guard_Send.f
  rw [slot_eq]
  simp only [Option.bind_some]
  split <;> rfl
/-- What a begun slot says of the state. -/
theorem SL_ok {sy : Bool} {l h a ho so he off d asn : Int} (e : (SL sy l h a ho so he off d asn).2.2 = 0) : CV off d ∧ (0 ≤ asn ∧ asn < 1000000000) ∧ SV true l h a ho so he ∧ sy = true ∧ (BO true l h a ho so he (OW l h ho asn)).2 = 0 ∧ FT off d (OW l h ho asn) ≤ 10000000000000 ∧
    SL sy l h a ho so he off d asn = (FT off d (OW l h ho asn) - asn * 10000, (BO true l h a ho so he (OW l h ho asn)).1, 0) := by
  unfold SL at e ⊢
  split at e
  · rename_i c1
    rw [if_pos c1]
    split at e
    · rename_i c2
      rw [if_pos c2]
      subst c2
      split at e
      · rename_i c3
        rw [if_pos c3]
        split at e
        · exact absurd e (by simp)
        · rename_i c4
          rw [if_neg c4]
          exact ⟨c1.1, c1.2.1, c1.2.2, rfl, c3, by omega, rfl⟩
      · rename_i c3
        exact absurd e c3
    · exact absurd e (by simp)
  · exact absurd e (by simp)
theorem BO_range {sy : Bool} {l h a ho so he now : Int} : 0 ≤ (BO sy l h a ho so he now).1 ∧ (BO sy l h a ho so he now).1 ≤ 2000 := by
  unfold BO
  split
  · split
    · split
      · simp
      · split
        · rename_i e
          rcases G_form l h a now with ⟨g, _, _, _, hv⟩ | g | ⟨g, _⟩
          · rw [g]
            unfold VP at hv
            dsimp only
            split
            · simp
            · dsimp only; omega
          · rw [g] at e; exact absurd e (by simp)
          · rw [g] at e; exact absurd e (by simp)
        · simp
    · simp
  · simp
theorem Listen_eq (k : Nat) (sy : Bool) (l h a ho so he off d asn : Int) : guard_Listen.f (k + 51) sy l h a ho so he off d asn = some (if (SL sy l h a ho so he off d asn).2.2 = 0 then ((SL sy l h a ho so he off d asn).1 - (2004 + (SL sy l h a ho so he off d asn).2.1), (SL sy l h a ho so he off d asn).1 + (2004 + (SL sy l h a ho so he off d asn).2.1), 0) else (0, 0, (SL sy l h a ho so he off d asn).2.2)) := by
  unfold guard_Listen.f
  rw [slot_eq]
  simp only [Option.bind_some]
  by_cases c : (SL sy l h a ho so he off d asn).2.2 = 0
  · obtain ⟨c1, c2, c3, c4, c5, c6, e⟩ := SL_ok c
    have hb := BO_range (sy := true) (l := l) (h := h) (a := a) (ho := ho) (so := so) (he := he) (now := OW l h ho asn)
    have hf := (FT_spec c1 (OW l h ho asn)).1.1
    rw [if_pos c, if_pos c, e]
    dsimp only
    rw [w64 (x := 2004 + (BO true l h a ho so he (OW l h ho asn)).1) (by omega), w64 (by omega), w64 (by omega)]
  · rw [if_neg c, if_neg c]
end Go.Proofs.Ytdpihbhkghjclaa.P
end
section
/- Plain laws of slots that are begun: on time, one after the other, sooner and later. Conditions: none. -/
namespace Go.Proofs.Ytdpihbhkghjclaa.P
open Go.RowKit Go.Proofs.YtdpihbhkghjclaaW.PrintWords Go.Proofs.YtdpihbhkghjclaaW.PrintLast Go.Proofs.YtdpihbhkghjclaaW.PrintMore
set_option linter.unusedVariables false
set_option linter.unusedSimpArgs false
theorem SV_vp {l h a ho so he : Int} (hs : SV true l h a ho so he) (c : ho ≠ 0) : 1 ≤ ho ∧ VP l h a := by
  unfold SV at hs
  rw [if_pos rfl] at hs
  rcases hs.2 with q | q
  · exact absurd q c
  · exact ⟨q.1, q.2.2⟩
theorem BO_root {l h a ho so he now : Int} (hs : SV true l h a ho so he) (c : ho = 0) : BO true l h a ho so he now = (0, 0) := by
  unfold BO
  rw [if_pos hs, if_pos rfl, if_pos c]
theorem BO_ok {l h a ho so he now : Int} (hs : SV true l h a ho so he) (c : ho ≠ 0) (e : (BO true l h a ho so he now).2 = 0) :
    VP l h a ∧ (a ≤ now ∧ now ≤ 20000000000000) ∧ VP (l - MO (now - a)) (h + MO (now - a)) now ∧ (BO true l h a ho so he now).1 = (h + MO (now - a) - (l - MO (now - a)) + 1) / 2 ∧ (h + MO (now - a) - (l - MO (now - a)) + 1) / 2 ≤ 2000 := by
  unfold BO at e ⊢
  rw [if_pos hs, if_pos rfl, if_neg c] at e ⊢
  rcases G_form l h a now with ⟨g, v, n1, n2, v2⟩ | g | ⟨g, _⟩
  · rw [g] at e ⊢
    dsimp only at e ⊢
    rw [if_pos rfl] at e ⊢
    split at e
    · exact absurd e (by simp)
    · rename_i q
      rw [if_neg q]
      exact ⟨v, ⟨n1, n2⟩, v2, rfl, by omega⟩
  · rw [g] at e; exact absurd e (by simp)
  · rw [g] at e; exact absurd e (by simp)
theorem AT_exact (t : Int) : AT 0 0 t = t := by unfold AT; omega
theorem FT_exact {x : Int} (h0 : 0 ≤ x) (h1 : x ≤ 10000000000000) : FT 0 0 x = x :=
  FT_eq (by unfold CV; omega) ⟨⟨h0, by omega⟩, fun t _ q => by rw [AT_exact]; exact q, fun _ => by rw [AT_exact]; omega⟩
theorem near1 {off d l h t T own S : Int} (hv : CV off d) (q : t ≤ T) (t1 : l ≤ t - AT off d t) (t2 : t - AT off d t ≤ h) (h1 : own ≤ AT off d T) (h2 : AT off d T ≤ own + 1) (h3 : AT off d t ≤ own) (e : own = S - (l + h) / 2) :
    T - S ≤ (h + MO (own - AT off d t) - (l - MO (own - AT off d t)) + 1) / 2 + 2 ∧ -((h + MO (own - AT off d t) - (l - MO (own - AT off d t)) + 1) / 2) - 2 ≤ T - S := by
  have g := AT_grow hv q
  generalize AT off d T = p at *
  generalize AT off d t = a at *
  unfold MO at *
  omega
theorem near2 {off d l h t T own S : Int} (hv : CV off d) (q : T < t) (t1 : l ≤ t - AT off d t) (t2 : t - AT off d t ≤ h) (h1 : own ≤ AT off d T) (h3 : AT off d t ≤ own) (e : own = S - (l + h) / 2) :
    T - S ≤ (h + MO (own - AT off d t) - (l - MO (own - AT off d t)) + 1) / 2 + 2 ∧ -((h + MO (own - AT off d t) - (l - MO (own - AT off d t)) + 1) / 2) - 2 ≤ T - S := by
  have m := AT_mono hv (show T ≤ t by omega)
  have hd : -50 ≤ d ∧ d ≤ 50 := by unfold CV at hv; omega
  have hb := mul_df (x := T) (y := t) hd.1 hd.2 (by omega)
  have mo : 1 ≤ MO (own - AT off d t) := by unfold MO; omega
  have e1 : AT off d T = AT off d t := by omega
  have e2 : t = T + 1 := by
    have e3 := e1
    unfold AT at e3
    generalize d * T = p1 at *
    generalize d * t = p2 at *
    omega
  generalize MO (own - AT off d t) = mm at *
  generalize AT off d T = p at *
  generalize AT off d t = p2 at *
  omega
/-- A slot is begun within the bound plus 2 of its true beginning. -/
theorem on_time {l h a ho so he off d t asn : Int} (hs : SV true l h a ho so he) (hv : CV off d) (ht : 0 ≤ t ∧ t ≤ 10000000000000) (hn : 0 ≤ asn ∧ asn < 1000000000)
    (hi : if ho = 0 then off = 0 ∧ d = 0 else a = AT off d t ∧ l ≤ t - AT off d t ∧ t - AT off d t ≤ h)
    (e : (BO true l h a ho so he (OW l h ho asn)).2 = 0) (hf : FT off d (OW l h ho asn) ≤ 10000000000000) :
    FT off d (OW l h ho asn) - asn * 10000 ≤ (BO true l h a ho so he (OW l h ho asn)).1 + 2 ∧ -(BO true l h a ho so he (OW l h ho asn)).1 - 2 ≤ FT off d (OW l h ho asn) - asn * 10000 := by
  by_cases c : ho = 0
  · rw [if_pos c] at hi
    obtain ⟨rfl, rfl⟩ := hi
    have ow : OW l h ho asn = asn * 10000 := by unfold OW; rw [if_neg (by omega)]
    rw [ow, FT_exact (by omega) (by omega), BO_root hs c]
    dsimp only
    omega
  · rw [if_neg c] at hi
    obtain ⟨ha, t1, t2⟩ := hi
    obtain ⟨v, ⟨n1, n2⟩, v2, e1, e2⟩ := BO_ok hs c e
    have hp := (SV_vp hs c).1
    have ow : OW l h ho asn = asn * 10000 - (l + h) / 2 := by unfold OW; rw [if_pos (by omega)]
    rw [e1, ha]
    rw [ha] at n1
    have h1 := (FT_spec hv (OW l h ho asn)).1.2.2 hf
    have h0 := (FT_spec hv (OW l h ho asn)).1.1.1
    by_cases q : t ≤ FT off d (OW l h ho asn)
    · refine near1 hv q t1 t2 h1 ?_ n1 ow
      by_cases z : 0 < FT off d (OW l h ho asn)
      · exact (FT_shows hv z hf).2
      · have : FT off d (OW l h ho asn) = t := by omega
        rw [this]
        omega
    · exact near2 hv (by omega) t1 t2 h1 n1 ow
end Go.Proofs.Ytdpihbhkghjclaa.P
end
section
/- Plain laws of the reference functions of layer 10. Conditions: none. -/
namespace Go.Proofs.Ytdpihbhkghjclaa.P
open Go.RowKit Go.Proofs.YtdpihbhkghjclaaW.PrintWords Go.Proofs.YtdpihbhkghjclaaW.PrintLast Go.Proofs.YtdpihbhkghjclaaW.PrintMore
set_option linter.unusedVariables false
set_option linter.unusedSimpArgs false
theorem rcvalid_eq (off d : Int) : slotmeshref07_Valid.f off d = some (decide (CV off d)) := by
  unfold slotmeshref07_Valid.f CV
  by_cases h1 : off ≥ -1000000000 <;> by_cases h2 : off ≤ 1000000000 <;> by_cases h3 : d ≥ -50 <;> by_cases h4 : d ≤ 50 <;> simp [h1, h2, h3, h4] <;> omega
end Go.Proofs.Ytdpihbhkghjclaa.P
end
section
/- Nodes that know the time: what is kept from slot to slot, who catches whom, what is told and what is heard. Conditions: none. -/
namespace Go.Proofs.Ytdpihbhkghjclaa.P
open Go.RowKit Go.Proofs.YtdpihbhkghjclaaW.PrintWords Go.Proofs.YtdpihbhkghjclaaW.PrintLast Go.Proofs.YtdpihbhkghjclaaW.PrintMore
set_option linter.unusedVariables false
set_option linter.unusedSimpArgs false
theorem wfu8 {a : Int} (h : (Lit.int .u8 a).wf = true) : 0 ≤ a ∧ a ≤ 255 := by
  simpa [Lit.wf, IntKind.min, IntKind.max, IntKind.bits, IntKind.signed] using h
theorem wfu16 {a : Int} (h : (Lit.int .u16 a).wf = true) : 0 ≤ a ∧ a ≤ 65535 := by
  simpa [Lit.wf, IntKind.min, IntKind.max, IntKind.bits, IntKind.signed] using h
theorem wfu32 {a : Int} (h : (Lit.int .u32 a).wf = true) : 0 ≤ a ∧ a ≤ 4294967295 := by
  simpa [Lit.wf, IntKind.min, IntKind.max, IntKind.bits, IntKind.signed] using h
/-- What is kept of a node and its clock, up to slot n. -/
def NODE (j : Nat) (c : S27) (s : S25) (n : Int) : Prop :=
  CV c.f0 c.f1 ∧ SV s.f0 s.f1.f0 s.f1.f1 s.f1.f2 s.f2 s.f3 s.f4 ∧ (j = 0 → c.f0 = 0 ∧ c.f1 = 0 ∧ s.f0 = true ∧ s.f2 = 0) ∧
  (j ≠ 0 → s.f0 = true → s.f2 ≠ 0 ∧ ∃ t, 0 ≤ t ∧ t ≤ n * 10000 + 5000 ∧ s.f1.f2 = AT c.f0 c.f1 t ∧ s.f1.f0 ≤ t - AT c.f0 c.f1 t ∧ t - AT c.f0 c.f1 t ≤ s.f1.f1 ∧ -2000000000 ≤ s.f1.f0 ∧ s.f1.f1 ≤ 2000000000)
def SLs (s : S25) (c : S27) (asn : Int) : Int × Int × Int := SL s.f0 s.f1.f0 s.f1.f1 s.f1.f2 s.f2 s.f3 s.f4 c.f0 c.f1 asn
theorem node_later {j : Nat} {c : S27} {s : S25} {n m : Int} (h : NODE j c s n) (hm : n ≤ m) : NODE j c s m := by
  obtain ⟨h1, h2, h3, h4⟩ := h
  refine ⟨h1, h2, h3, fun a b => ?_⟩
  obtain ⟨g, t, t0, t1, t2⟩ := h4 a b
  exact ⟨g, t, t0, by omega, t2⟩
theorem node_true {j : Nat} {c : S27} {s : S25} {n : Int} (h : NODE j c s n) (hn : 0 ≤ n ∧ n ≤ 900000000) (hy : s.f0 = true) :
    ∃ t, (0 ≤ t ∧ t ≤ 10000000000000) ∧ (if s.f2 = 0 then c.f0 = 0 ∧ c.f1 = 0 else s.f1.f2 = AT c.f0 c.f1 t ∧ s.f1.f0 ≤ t - AT c.f0 c.f1 t ∧ t - AT c.f0 c.f1 t ≤ s.f1.f1) := by
  obtain ⟨h1, h2, h3, h4⟩ := h
  by_cases q : j = 0
  · obtain ⟨g1, g2, g3, g4⟩ := h3 q
    exact ⟨0, by omega, by rw [if_pos g4]; exact ⟨g1, g2⟩⟩
  · obtain ⟨g, t, t0, t1, t2, t3, t4, _⟩ := h4 q hy
    exact ⟨t, by omega, by rw [if_neg g]; exact ⟨t2, t3, t4⟩⟩
/-- A slot that a node can begin is begun near its true beginning. -/
theorem node_near {j : Nat} {c : S27} {s : S25} {n asn : Int} (h : NODE j c s n) (hn : 0 ≤ n ∧ n ≤ 900000000) (e : (SLs s c asn).2.2 = 0) :
    (0 ≤ (SLs s c asn).2.1 ∧ (SLs s c asn).2.1 ≤ 2000) ∧ (SLs s c asn).1 ≤ (SLs s c asn).2.1 + 2 ∧ -(SLs s c asn).2.1 - 2 ≤ (SLs s c asn).1 := by
  unfold SLs at e ⊢
  obtain ⟨e1, e2, e3, e4, e5, e6, e7⟩ := SL_ok e
  obtain ⟨t, t1, t2⟩ := node_true h hn e4
  have o := on_time e3 e1 t1 e2 t2 e5 e6
  rw [e7]
  exact ⟨BO_range, o⟩
theorem node_caught {j j' : Nat} {c c' : S27} {s s' : S25} {n asn : Int} (h : NODE j c s n) (h' : NODE j' c' s' n) (hn : 0 ≤ n ∧ n ≤ 900000000) (e : (SLs s c asn).2.2 = 0) (e' : (SLs s' c' asn).2.2 = 0) :
    (SLs s' c' asn).1 - (2004 + (SLs s' c' asn).2.1) ≤ (SLs s c asn).1 ∧ (SLs s c asn).1 ≤ (SLs s' c' asn).1 + (2004 + (SLs s' c' asn).2.1) := by
  have a := node_near h hn e
  have b := node_near h' hn e'
  omega
theorem Send_ge {k : Nat} (hk : 51 ≤ k) (s : S25) (c : S27) (asn : Int) : guard_Send.f k s.f0 s.f1.f0 s.f1.f1 s.f1.f2 s.f2 s.f3 s.f4 c.f0 c.f1 asn = some (if (SLs s c asn).2.2 = 0 then ((SLs s c asn).1, 0) else (0, (SLs s c asn).2.2)) := by
  obtain ⟨q, rfl⟩ : ∃ q, k = q + 51 := ⟨k - 51, by omega⟩
  exact Send_eq q _ _ _ _ _ _ _ _ _ _
theorem Listen_ge {k : Nat} (hk : 51 ≤ k) (s : S25) (c : S27) (asn : Int) : guard_Listen.f k s.f0 s.f1.f0 s.f1.f1 s.f1.f2 s.f2 s.f3 s.f4 c.f0 c.f1 asn = some (if (SLs s c asn).2.2 = 0 then ((SLs s c asn).1 - (2004 + (SLs s c asn).2.1), (SLs s c asn).1 + (2004 + (SLs s c asn).2.1), 0) else (0, 0, (SLs s c asn).2.2)) := by
  obtain ⟨q, rfl⟩ : ∃ q, k = q + 51 := ⟨k - 51, by omega⟩
  exact Listen_eq q _ _ _ _ _ _ _ _ _ _
/-- All nodes. -/
def ALLN (C : List S27) (L : List S25) (n : Int) : Prop := L.length = C.length ∧ L.length ≤ 7 ∧ ∀ j : Nat, j < L.length → NODE j (rd_T27 C (j : Int)) (rd_T25 L (j : Int)) n
theorem catch_in {C : List S27} {L : List S25} {n asn : Int} (hA : ALLN C L n) (hn : 0 ≤ n ∧ n ≤ 900000000) (i : Nat) (hi : i < L.length) (x8 x9 : Int)
    (hx : x9 = 0 → (SLs (rd_T25 L (i : Int)) (rd_T27 C (i : Int)) asn).2.2 = 0 ∧ x8 = (SLs (rd_T25 L (i : Int)) (rd_T27 C (i : Int)) asn).1)
    (hrest : ∃ K, ∀ k, K ≤ k → slotmeshtop_w17Catch.l0 k L C asn (wrap64 ((i : Int) + 1)) = some true) :
    ∀ (m q : Nat), m = L.length - q → q ≤ L.length → ∃ K, ∀ k, K ≤ k → slotmeshtop_w17Catch.l1 k L C asn (i : Int) x8 x9 (q : Int) = some true := by
  obtain ⟨hl, h7, hN⟩ := hA
  obtain ⟨K0, hr⟩ := hrest
  have out : ∀ (q : Nat), ∃ K, ∀ k, K ≤ k → slotmeshtop_w17Catch.j2 k L C asn (i : Int) x8 x9 (q : Int) false = some true := by
    intro q
    refine ⟨K0 + 1, fun k hk => ?_⟩
    obtain ⟨k', rfl⟩ : ∃ k', k = k' + 1 := ⟨k - 1, by omega⟩
    rw [slotmeshtop_w17Catch.j2, if_neg (by decide)]
    exact hr k' (by omega)
  intro m
  induction m with
  | zero =>
    intro q e hq
    obtain ⟨K1, h1⟩ := out q
    refine ⟨K1 + 1, fun k hk => ?_⟩
    obtain ⟨k', rfl⟩ : ∃ k', k = k' + 1 := ⟨k - 1, by omega⟩
    rw [slotmeshtop_w17Catch.l1, if_neg (by omega)]
    exact h1 k' (by omega)
  | succ m ih =>
    intro q e hq
    by_cases c9 : x9 = 0
    · obtain ⟨e1, e2⟩ := hx c9
      obtain ⟨K2, h2⟩ := ih (q + 1) (by omega) (by omega)
      refine ⟨K2 + 60, fun k hk => ?_⟩
      obtain ⟨k', rfl⟩ : ∃ k', k = k' + 1 + 1 := ⟨k - 2, by omega⟩
      have h3 := h2 k' (by omega)
      rw [show ((q + 1 : Nat) : Int) = (q : Int) + 1 by omega] at h3
      rw [slotmeshtop_w17Catch.l1, if_pos (by omega), c9, show ((0 : Int) == 0) = true from rfl, slotmeshtop_w17Catch.j2, if_pos rfl, if_pos (by omega), if_pos (by omega), if_pos (by omega), Listen_ge (by omega)]
      rw [Option.bind_some, w64 (x := (q : Int) + 1) (by omega)]
      rw [c9] at h3
      by_cases e3 : (SLs (rd_T25 L (q : Int)) (rd_T27 C (q : Int)) asn).2.2 = 0
      · have cc := node_caught (hN i hi) (hN q (by omega)) hn e1 e3
        rw [if_pos e3]
        dsimp only
        rw [if_pos rfl]
        have hc : guard_Catches.f x8 ((SLs (rd_T25 L (q : Int)) (rd_T27 C (q : Int)) asn).1 - (2004 + (SLs (rd_T25 L (q : Int)) (rd_T27 C (q : Int)) asn).2.1)) ((SLs (rd_T25 L (q : Int)) (rd_T27 C (q : Int)) asn).1 + (2004 + (SLs (rd_T25 L (q : Int)) (rd_T27 C (q : Int)) asn).2.1)) = some true := by
          unfold guard_Catches.f
          rw [if_pos (by omega), decide_eq_true (by omega)]
        rw [hc, Option.bind_some, if_pos rfl]
        exact h3
      · rw [if_neg e3]
        dsimp only
        rw [if_neg e3]
        exact h3
    · obtain ⟨K1, h1⟩ := out q
      refine ⟨K1 + 1, fun k hk => ?_⟩
      obtain ⟨k', rfl⟩ : ∃ k', k = k' + 1 := ⟨k - 1, by omega⟩
      rw [slotmeshtop_w17Catch.l1, if_pos (by omega), beq_eq_false_iff_ne.2 c9]
      exact h1 k' (by omega)
/-- In every slot all nodes that can begin it catch each other. -/
theorem catch_all {C : List S27} {L : List S25} {n : Int} (hA : ALLN C L n) (hn : 0 ≤ n ∧ n ≤ 900000000) (asn : Int) : ∃ K, ∀ k, K ≤ k → slotmeshtop_w17Catch.f k L C asn = some true := by
  have key : ∀ (m q : Nat), m = L.length - q → q ≤ L.length → ∃ K, ∀ k, K ≤ k → slotmeshtop_w17Catch.l0 k L C asn (q : Int) = some true := by
    have hl := hA.1
    have h7 := hA.2.1
    intro m
    induction m with
    | zero =>
      intro q e hq
      refine ⟨1, fun k hk => ?_⟩
      obtain ⟨k', rfl⟩ : ∃ k', k = k' + 1 := ⟨k - 1, by omega⟩
      rw [slotmeshtop_w17Catch.l0, if_neg (by omega)]
    | succ m ih =>
      intro q e hq
      obtain ⟨K2, h2⟩ := ih (q + 1) (by omega) (by omega)
      have hrest : ∃ K, ∀ k, K ≤ k → slotmeshtop_w17Catch.l0 k L C asn (wrap64 ((q : Int) + 1)) = some true := by
        refine ⟨K2, fun k hk => ?_⟩
        rw [w64 (x := (q : Int) + 1) (by omega), show (q : Int) + 1 = ((q + 1 : Nat) : Int) by omega]
        exact h2 k hk
      obtain ⟨K3, h3⟩ := catch_in hA hn q (by omega) (if (SLs (rd_T25 L (q : Int)) (rd_T27 C (q : Int)) asn).2.2 = 0 then ((SLs (rd_T25 L (q : Int)) (rd_T27 C (q : Int)) asn).1, 0) else (0, (SLs (rd_T25 L (q : Int)) (rd_T27 C (q : Int)) asn).2.2)).1 (if (SLs (rd_T25 L (q : Int)) (rd_T27 C (q : Int)) asn).2.2 = 0 then ((SLs (rd_T25 L (q : Int)) (rd_T27 C (q : Int)) asn).1, 0) else (0, (SLs (rd_T25 L (q : Int)) (rd_T27 C (q : Int)) asn).2.2)).2 (by
        intro z
        by_cases e3 : (SLs (rd_T25 L (q : Int)) (rd_T27 C (q : Int)) asn).2.2 = 0
        · rw [if_pos e3]; exact ⟨e3, rfl⟩
        · rw [if_neg e3] at z; exact absurd z e3) hrest L.length 0 (by omega) (by omega)
      refine ⟨K3 + 60, fun k hk => ?_⟩
      obtain ⟨k', rfl⟩ : ∃ k', k = k' + 1 := ⟨k - 1, by omega⟩
      rw [slotmeshtop_w17Catch.l0, if_pos (by omega), if_pos (by omega), if_pos (by omega), Send_ge (by omega), Option.bind_some]
      exact h3 k' (by omega)
  obtain ⟨K, h⟩ := key L.length 0 (by omega) (by omega)
  exact ⟨K, fun k hk => h k hk⟩
end Go.Proofs.Ytdpihbhkghjclaa.P
end
section
/- What a node tells in a beacon, and what another one hears. Conditions: none. -/
namespace Go.Proofs.Ytdpihbhkghjclaa.P
open Go.RowKit Go.Proofs.YtdpihbhkghjclaaW.PrintWords Go.Proofs.YtdpihbhkghjclaaW.PrintLast Go.Proofs.YtdpihbhkghjclaaW.PrintMore
set_option linter.unusedVariables false
set_option linter.unusedSimpArgs false
theorem mo_near {x y : Int} (h0 : 0 ≤ x) (h1 : 0 ≤ y) (h : x ≤ y + 2004) : MO x ≤ MO y + 1 := by unfold MO; omega
/-- The time of a slot by its own clock lies near the own time at which it is begun. -/
theorem own_near {off d own S T : Int} (hv : CV off d) (h1 : own ≤ AT off d T) (h2 : AT off d T ≤ own + 1) (h3 : T - S ≤ 2002) (h4 : -2002 ≤ T - S) : own ≤ AT off d S + 2004 ∧ AT off d S ≤ own + 2004 := by
  have hd : -50 ≤ d ∧ d ≤ 50 := by unfold CV at hv; omega
  by_cases q : T ≤ S
  · have hb := mul_df (x := T) (y := S) hd.1 hd.2 q
    unfold AT at *
    generalize d * T = p1 at *
    generalize d * S = p2 at *
    omega
  · have hb := mul_df (x := S) (y := T) hd.1 hd.2 (by omega)
    unfold AT at *
    generalize d * T = p1 at *
    generalize d * S = p2 at *
    omega
/-- A frame begins within the bound that the beacon tells. -/
theorem told_near {l h a ho so he off d t asn : Int} (hs : SV true l h a ho so he) (hv : CV off d) (ht : 0 ≤ t ∧ t ≤ 10000000000000) (hn : 1 ≤ asn ∧ asn < 1000000000)
    (hi : if ho = 0 then off = 0 ∧ d = 0 else a = AT off d t ∧ l ≤ t - AT off d t ∧ t - AT off d t ≤ h)
    (e : (BO true l h a ho so he (OW l h ho asn)).2 = 0) (hf : FT off d (OW l h ho asn) ≤ 10000000000000) (e2 : (BO true l h a ho so he (AT off d (asn * 10000))).2 = 0) :
    FT off d (OW l h ho asn) - asn * 10000 ≤ (BO true l h a ho so he (AT off d (asn * 10000))).1 + (if ho = 0 then 0 else 4) ∧ -((BO true l h a ho so he (AT off d (asn * 10000))).1 + (if ho = 0 then 0 else 4)) ≤ FT off d (OW l h ho asn) - asn * 10000 := by
  by_cases c : ho = 0
  · rw [if_pos c] at hi ⊢
    obtain ⟨rfl, rfl⟩ := hi
    have ow : OW l h ho asn = asn * 10000 := by unfold OW; rw [if_neg (by omega)]
    rw [ow, FT_exact (by omega) (by omega), BO_root hs c]
    dsimp only
    omega
  · have o := on_time hs hv ht ⟨by omega, hn.2⟩ hi e hf
    have r := BO_range (sy := true) (l := l) (h := h) (a := a) (ho := ho) (so := so) (he := he) (now := OW l h ho asn)
    obtain ⟨v, ⟨n1, n2⟩, v2, e1, e3⟩ := BO_ok hs c e
    obtain ⟨_, ⟨m1, m2⟩, _, f1, f3⟩ := BO_ok hs c e2
    have f0 := (FT_spec hv (OW l h ho asn)).1.1.1
    have sh := FT_shows hv (show 0 < FT off d (OW l h ho asn) by omega) hf
    have nr := own_near hv sh.1 sh.2 (show FT off d (OW l h ho asn) - asn * 10000 ≤ 2002 by omega) (by omega)
    have mm := mo_near (x := OW l h ho asn - a) (y := AT off d (asn * 10000) - a) (by omega) (by omega) (by omega)
    rw [if_neg c, f1]
    rw [e1] at o
    generalize MO (OW l h ho asn - a) = x0 at *
    generalize MO (AT off d (asn * 10000) - a) = x1 at *
    generalize FT off d (OW l h ho asn) - asn * 10000 = st at *
    omega
/-- The first of two hints that a node hears, or a further one: what it knows then. -/
theorem heard_next {l h a ho so he off d t0 t fr hh bnd asn : Int} {sy : Bool} (hs : SV sy l h a ho so he) (hv : CV off d) (ht0 : 0 ≤ t0) (ht1 : t0 ≤ t) (ht : 0 ≤ t ∧ t ≤ 10000000000000)
    (hn : 0 ≤ asn ∧ asn ≤ 1000000000) (hb : 0 ≤ bnd ∧ bnd ≤ 2000) (hr : t - asn * 10000 ≤ bnd ∧ -bnd ≤ t - asn * 10000) (hf : 0 ≤ fr ∧ fr < 60) (hh' : 0 ≤ hh ∧ hh < 60)
    (hi : sy = true → ho ≠ 0 → a = AT off d t0 ∧ l ≤ t0 - AT off d t0 ∧ t0 - AT off d t0 ≤ h ∧ -2000000000 ≤ l ∧ h ≤ 2000000000) :
    HE sy l h a ho so he fr hh bnd asn (AT off d t) = (sy, l, h, a, ho, so, he, 0) ∨
    (¬ (sy = true ∧ ho = 0) ∧ ∃ l' h', HE sy l h a ho so he fr hh bnd asn (AT off d t) = (true, l', h', AT off d t, hh + 1, fr, asn, 0) ∧ (l' ≤ t - AT off d t ∧ t - AT off d t ≤ h') ∧ (-2000000000 ≤ l' ∧ h' ≤ 2000000000) ∧ VP l' h' (AT off d t)) := by
  have nn := AT_near hv ht.1 ht.2
  have hHD : HD bnd asn (AT off d t) = (asn * 10000 - AT off d t - bnd, asn * 10000 - AT off d t + bnd, AT off d t, 0) := by unfold HD; rw [if_pos (by omega)]
  unfold HE
  rw [hHD, if_pos ⟨hs, rfl, hf, hh'⟩]
  by_cases c : TK sy ho so fr hh
  · rw [if_pos c]
    have c1 : ¬ (sy = true ∧ ho = 0) := by unfold TK at c; exact c.1
    right
    refine ⟨c1, ?_⟩
    cases sy
    · rw [if_neg (by decide)]
      exact ⟨asn * 10000 - AT off d t - bnd, asn * 10000 - AT off d t + bnd, rfl, ⟨by omega, by omega⟩, ⟨by omega, by omega⟩, by unfold VP; omega⟩
    · have c2 : ho ≠ 0 := fun q => c1 ⟨rfl, q⟩
      obtain ⟨i1, i2, i3, i4, i5⟩ := hi rfl c2
      have hvp := (SV_vp hs c2).2
      have n0 := AT_near hv ht0 (by omega)
      have n3 := AT_mono hv ht1
      have n4 := AT_grow hv ht1
      rw [if_pos rfl]
      dsimp only
      subst i1
      generalize AT off d t0 = p at *
      generalize AT off d t = q at *
      have hm : 0 ≤ MO (q - p) ∧ MO (q - p) ≤ 1000000000 := by unfold MO; omega
      have hmx : mx p q = q := by unfold mx; split <;> omega
      have hd1 : dl p q = MO (q - p) := by unfold dl; rw [if_neg (by omega)]
      have hd2 : 0 ≤ dl q p ∧ dl q p ≤ 1000 := by unfold dl MO; split <;> omega
      have hmx1 : mx (l - dl p q) (asn * 10000 - q - bnd - dl q p) ≤ t - q ∧ asn * 10000 - q - bnd - dl q p ≤ mx (l - dl p q) (asn * 10000 - q - bnd - dl q p) := by unfold mx; rw [hd1]; split <;> omega
      have hmn1 : t - q ≤ mn (h + dl p q) (asn * 10000 - q + bnd + dl q p) ∧ mn (h + dl p q) (asn * 10000 - q + bnd + dl q p) ≤ asn * 10000 - q + bnd + dl q p := by unfold mn; rw [hd1]; split <;> omega
      have hM : M l h p (asn * 10000 - q - bnd) (asn * 10000 - q + bnd) q = (mx (l - dl p q) (asn * 10000 - q - bnd - dl q p), mn (h + dl p q) (asn * 10000 - q + bnd + dl q p), q, 0) := by
        unfold M
        have b1 : VP (asn * 10000 - q - bnd) (asn * 10000 - q + bnd) q := by unfold VP; omega
        rw [if_pos ⟨hvp, b1⟩, if_pos, if_neg, hmx]
        · omega
        · unfold VP at hvp ⊢
          rw [hmx, hd1]
          omega
      rw [hM, if_pos rfl]
      exact ⟨mx (l - dl p q) (asn * 10000 - q - bnd - dl q p), mn (h + dl p q) (asn * 10000 - q + bnd + dl q p), rfl, ⟨hmx1.1, hmn1.1⟩, ⟨by omega, by omega⟩, by unfold VP; omega⟩
  · rw [if_neg c]
    exact .inl rfl
end Go.Proofs.Ytdpihbhkghjclaa.P
end
section
/- One beacon: what is kept of all nodes. Conditions: none. -/
namespace Go.Proofs.Ytdpihbhkghjclaa.P
open Go.RowKit Go.Proofs.YtdpihbhkghjclaaW.PrintWords Go.Proofs.YtdpihbhkghjclaaW.PrintLast Go.Proofs.YtdpihbhkghjclaaW.PrintMore
set_option linter.unusedVariables false
set_option linter.unusedSimpArgs false
theorem Tells_ge {k : Nat} (hk : 51 ≤ k) (s : S25) (c : S27) (root : Bool) (asn : Int) (hv : CV c.f0 c.f1) (hn : 0 ≤ asn ∧ asn ≤ 900000000) :
    slotmeshtop_w17Tells.f k s.f0 s.f1.f0 s.f1.f1 s.f1.f2 s.f2 s.f3 s.f4 c.f0 c.f1 root asn = some ((if (SLs s c asn).2.2 = 0 then ((SLs s c asn).1, 0) else (0, (SLs s c asn).2.2)).1, (if root = true then (BO s.f0 s.f1.f0 s.f1.f1 s.f1.f2 s.f2 s.f3 s.f4 (AT c.f0 c.f1 (asn * 10000))).1 else (BO s.f0 s.f1.f0 s.f1.f1 s.f1.f2 s.f2 s.f3 s.f4 (AT c.f0 c.f1 (asn * 10000))).1 + 4),
      ((if (SLs s c asn).2.2 = 0 then ((SLs s c asn).1, 0) else (0, (SLs s c asn).2.2)).2 == 0 && ((0 : Int) == 0 && ((BO s.f0 s.f1.f0 s.f1.f1 s.f1.f2 s.f2 s.f3 s.f4 (AT c.f0 c.f1 (asn * 10000))).2 == 0 && (decide ((if root = true then (BO s.f0 s.f1.f0 s.f1.f1 s.f1.f2 s.f2 s.f3 s.f4 (AT c.f0 c.f1 (asn * 10000))).1 else (BO s.f0 s.f1.f0 s.f1.f1 s.f1.f2 s.f2 s.f3 s.f4 (AT c.f0 c.f1 (asn * 10000))).1 + 4) ≤ 2000) && decide (s.f2 < 60)))))) := by
  have r := BO_range (sy := s.f0) (l := s.f1.f0) (h := s.f1.f1) (a := s.f1.f2) (ho := s.f2) (so := s.f3) (he := s.f4) (now := AT c.f0 c.f1 (asn * 10000))
  unfold slotmeshtop_w17Tells.f
  rw [Send_ge hk, Option.bind_some, w64 (x := asn * 10000) (by omega), Show_eq, if_pos ⟨hv, by omega, by omega⟩, Option.bind_some]
  obtain ⟨q, rfl⟩ : ∃ q, k = q + 6 := ⟨k - 6, by omega⟩
  rw [Bound_eq, Option.bind_some]
  rw [w64 (x := (BO s.f0 s.f1.f0 s.f1.f1 s.f1.f2 s.f2 s.f3 s.f4 (AT c.f0 c.f1 (asn * 10000), 0).1).1 + 4) (by dsimp only; omega)]
theorem rd_set (L : List S25) (i q : Nat) (v : S25) (hi : i < L.length) : rd_T25 (L.set ((i : Int).toNat) v) (q : Int) = if q = i then v else rd_T25 L (q : Int) := by
  unfold rd_T25
  rw [Int.toNat_natCast, Int.toNat_natCast, List.getD_eq_getElem?_getD, List.getD_eq_getElem?_getD, List.getElem?_set]
  by_cases c : q = i
  · subst c; simp [hi]
  · rw [if_neg c, if_neg (fun h => c h.symm)]
/-- A state as it reads in a list. -/
def asS (x : Bool × Int × Int × Int × Int × Int × Int) : S25 := ⟨x.1, ⟨x.2.1, x.2.2.1, x.2.2.2.1⟩, x.2.2.2.2.1, x.2.2.2.2.2.1, x.2.2.2.2.2.2⟩
theorem node_tick {j : Nat} {c : S27} {n now : Int} {sy : Bool} {l h a ho so he : Int} (hN : NODE j c (asS (sy, l, h, a, ho, so, he)) n) : NODE j c (asS (TI sy l h a ho so he now)) n := by
  unfold TI
  by_cases q : SV sy l h a ho so he ∧ sy = true ∧ (BO sy l h a ho so he now).2 ≠ 0
  · rw [if_pos q]
    obtain ⟨h1, h2, h3, h4⟩ := hN
    refine ⟨h1, ?_, ?_, ?_⟩
    · show SV false 0 0 0 60 (-1) 0
      unfold SV; simp
    · intro z
      obtain ⟨_, _, _, g⟩ := h3 z
      obtain ⟨q1, q2, q3⟩ := q
      subst q2
      exact absurd (by rw [BO_root q1 g]) q3
    · intro _ z
      exact absurd z (by decide)
  · rw [if_neg q]; exact hN
theorem alln_set {C : List S27} {L : List S25} {n m : Int} {i : Nat} {v : S25} (hA : ALLN C L n) (hm : n ≤ m) (hi : i < L.length) (hv : NODE i (rd_T27 C (i : Int)) v m) : ALLN C (L.set ((i : Int).toNat) v) m := by
  obtain ⟨a1, a2, a3⟩ := hA
  have e : (L.set ((i : Int).toNat) v).length = L.length := List.length_set ..
  refine ⟨by rw [e]; exact a1, by rw [e]; exact a2, fun q hq => ?_⟩
  rw [e] at hq
  rw [rd_set L i q v hi]
  by_cases z : q = i
  · rw [if_pos z, z]; exact hv
  · rw [if_neg z]; exact node_later (a3 q hq) hm
theorem alln_later {C : List S27} {L : List S25} {n m : Int} (hA : ALLN C L n) (hm : n ≤ m) : ALLN C L m :=
  ⟨hA.1, hA.2.1, fun q hq => node_later (hA.2.2 q hq) hm⟩
def EV (g : Nat → Option Bool) : Prop := ∃ K, ∀ k, K ≤ k → g k = some true
/-- What a node knows is set anew, and the next beacon's turn comes. -/
theorem chain_j6 {hops : List S42} {C : List S27} {L : List S25} {n asn j now : Int} {i : Nat} {sy : Bool} {l h a ho so he : Int} (hA : ALLN C L n) (hm : n ≤ asn) (hi : i < L.length)
    (hN : NODE i (rd_T27 C (i : Int)) (asS (sy, l, h, a, ho, so, he)) asn)
    (next : ∀ L', L'.length = L.length → ALLN C L' asn → EV (fun k => slotmeshtop_TopChain.l1 k hops true C L' asn (wrap64 (j + 1)))) :
    EV (fun k => slotmeshtop_TopChain.j6 k hops true C L asn j (i : Int) now sy l h a ho so he) := by
  obtain ⟨K, hK⟩ := next (L.set ((i : Int).toNat) (asS (TI sy l h a ho so he now))) (List.length_set ..) (alln_set hA hm hi (node_tick hN))
  refine ⟨K + 10, fun k hk => ?_⟩
  obtain ⟨k', rfl⟩ : ∃ k', k = k' + 6 + 1 := ⟨k - 7, by omega⟩
  show slotmeshtop_TopChain.j6 (k' + 6 + 1) hops true C L asn j (i : Int) now sy l h a ho so he = some true
  rw [slotmeshtop_TopChain.j6, Tick_eq, Option.bind_some, if_pos (by omega), if_pos (by omega)]
  exact hK (k' + 6) (by omega)
theorem chain_j4 {hops : List S42} {C : List S27} {L : List S25} {n asn j start b : Int} {f i : Nat} (hA : ALLN C L n) (hn : 0 ≤ n ∧ n + 1 ≤ asn ∧ asn ≤ 800000000) (hf : f < L.length) (hi : i < L.length)
    (hb : 0 ≤ b ∧ b ≤ 2000) (hs : start ≤ b ∧ -b ≤ start) (hh : 0 ≤ (rd_T25 L (f : Int)).f2 ∧ (rd_T25 L (f : Int)).f2 < 60)
    (next : ∀ L', L'.length = L.length → ALLN C L' asn → EV (fun k => slotmeshtop_TopChain.l1 k hops true C L' asn (wrap64 (j + 1)))) :
    EV (fun k => slotmeshtop_TopChain.j4 k hops true C L asn j (f : Int) (i : Int) start b false) := by
  have h7 := hA.2.1
  have hlen := hA.1
  have hNi := hA.2.2 i hi
  obtain ⟨h1, h2, h3, h4⟩ := hNi
  obtain ⟨t, ht⟩ : ∃ t, asn * 10000 + start = t := ⟨_, rfl⟩
  have htr : 0 ≤ t ∧ t ≤ 10000000000000 := by omega
  have tw : ∃ t0, 0 ≤ t0 ∧ t0 ≤ t ∧ ((rd_T25 L (i : Int)).f0 = true → (rd_T25 L (i : Int)).f2 ≠ 0 → (rd_T25 L (i : Int)).f1.f2 = AT (rd_T27 C (i : Int)).f0 (rd_T27 C (i : Int)).f1 t0 ∧ (rd_T25 L (i : Int)).f1.f0 ≤ t0 - AT (rd_T27 C (i : Int)).f0 (rd_T27 C (i : Int)).f1 t0 ∧ t0 - AT (rd_T27 C (i : Int)).f0 (rd_T27 C (i : Int)).f1 t0 ≤ (rd_T25 L (i : Int)).f1.f1 ∧ -2000000000 ≤ (rd_T25 L (i : Int)).f1.f0 ∧ (rd_T25 L (i : Int)).f1.f1 ≤ 2000000000) := by
    by_cases q : i ≠ 0 ∧ (rd_T25 L (i : Int)).f0 = true
    · obtain ⟨_, t0, g1, g2, g3⟩ := h4 q.1 q.2
      exact ⟨t0, g1, by omega, fun _ _ => g3⟩
    · refine ⟨0, by omega, by omega, fun g1 g2 => ?_⟩
      by_cases z : i = 0
      · exact absurd (h3 z).2.2.2 g2
      · exact absurd ⟨z, g1⟩ q
  obtain ⟨t0, g1, g2, g3⟩ := tw
  have hx := heard_next (fr := (f : Int)) (hh := (rd_T25 L (f : Int)).f2) (bnd := b) (asn := asn) h2 h1 g1 g2 htr (by omega) hb (by omega) (by omega) hh g3
  -- what is heard, and what is kept of the node with it
  have fin : ∃ sy l h a ho so he, HE (rd_T25 L (i : Int)).f0 (rd_T25 L (i : Int)).f1.f0 (rd_T25 L (i : Int)).f1.f1 (rd_T25 L (i : Int)).f1.f2 (rd_T25 L (i : Int)).f2 (rd_T25 L (i : Int)).f3 (rd_T25 L (i : Int)).f4 (f : Int) (rd_T25 L (f : Int)).f2 b asn (AT (rd_T27 C (i : Int)).f0 (rd_T27 C (i : Int)).f1 t) = (sy, l, h, a, ho, so, he, 0) ∧
      NODE i (rd_T27 C (i : Int)) (asS (sy, l, h, a, ho, so, he)) asn ∧
      ((sy, l, h, a, ho, so, he) = ((rd_T25 L (i : Int)).f0, (rd_T25 L (i : Int)).f1.f0, (rd_T25 L (i : Int)).f1.f1, (rd_T25 L (i : Int)).f1.f2, (rd_T25 L (i : Int)).f2, (rd_T25 L (i : Int)).f3, (rd_T25 L (i : Int)).f4) ∨ (sy = true ∧ a = AT (rd_T27 C (i : Int)).f0 (rd_T27 C (i : Int)).f1 t ∧ l ≤ t - AT (rd_T27 C (i : Int)).f0 (rd_T27 C (i : Int)).f1 t ∧ t - AT (rd_T27 C (i : Int)).f0 (rd_T27 C (i : Int)).f1 t ≤ h ∧ ho = (rd_T25 L (f : Int)).f2 + 1)) := by
    rcases hx with e | ⟨c1, l', h', e, u1, u2, u3⟩
    · exact ⟨_, _, _, _, _, _, _, e, node_later ⟨h1, h2, h3, h4⟩ (by omega), .inl rfl⟩
    · refine ⟨_, _, _, _, _, _, _, e, ⟨h1, ?_, ?_, ?_⟩, .inr ⟨rfl, rfl, u1.1, u1.2, rfl⟩⟩
      · show SV true l' h' (AT (rd_T27 C (i : Int)).f0 (rd_T27 C (i : Int)).f1 t) ((rd_T25 L (f : Int)).f2 + 1) (f : Int) asn
        unfold SV
        rw [if_pos rfl]
        exact ⟨⟨by omega, by omega, by omega, by omega⟩, .inr ⟨by omega, by omega, u3⟩⟩
      · intro z
        exact absurd ⟨(h3 z).2.2.1, (h3 z).2.2.2⟩ c1
      · intro _ _
        refine ⟨?_, t, htr.1, by omega, rfl, u1.1, u1.2, u2.1, u2.2⟩
        show (rd_T25 L (f : Int)).f2 + 1 ≠ 0
        omega
  obtain ⟨sy, l, h, a, ho, so, he, e1, e2, e3⟩ := fin
  obtain ⟨K, hK⟩ := chain_j6 (now := AT (rd_T27 C (i : Int)).f0 (rd_T27 C (i : Int)).f1 t) hA (show n ≤ asn by omega) hi e2 next
  have nn := AT_near h1 htr.1 htr.2
  refine ⟨K + 20, fun k hk => ?_⟩
  obtain ⟨k', rfl⟩ : ∃ k', k = k' + 6 + 1 + 1 := ⟨k - 8, by omega⟩
  show slotmeshtop_TopChain.j4 (k' + 6 + 1 + 1) hops true C L asn j (f : Int) (i : Int) start b false = some true
  have hK' := hK (k' + 6) (by omega)
  rw [slotmeshtop_TopChain.j4, if_neg (by decide), if_pos (by omega), if_pos (by omega), w64 (x := asn * 10000) (by omega), ht, w64 (x := t) (by omega), Show_eq, if_pos ⟨h1, htr.1, htr.2⟩, Option.bind_some, if_pos (by omega), if_pos (by omega), if_pos (by omega), show k' + 6 + 1 = (k' + 1) + 6 by omega, Hear_eq, Option.bind_some, if_pos rfl]
  dsimp only
  rw [e1]
  dsimp only
  rw [show (k' + 1) + 6 = k' + 6 + 1 by omega, slotmeshtop_TopChain.j5, if_neg (by decide), if_pos rfl, if_pos (by omega), if_pos (by omega)]
  split
  · exact hK'
  · rename_i hne
    rcases e3 with q | ⟨q1, q2, q3, q4, q5⟩
    · obtain ⟨rfl, rfl, rfl, rfl, rfl, rfl, rfl⟩ : sy = _ ∧ l = _ ∧ h = _ ∧ a = _ ∧ ho = _ ∧ so = _ ∧ he = _ := by simpa only [Prod.mk.injEq] using q
      exact absurd (by simp) hne
    · rw [if_pos q1, True_eq _ _ _ _ _ (by omega), decide_eq_true ⟨q2, q3, q4⟩, Option.bind_some, if_pos rfl, if_pos (by omega), if_pos (by omega), w64 (x := (rd_T25 L (f : Int)).f2 + 1) (by omega), q5]
      rw [q5] at hK'
      rw [show ((rd_T25 L (f : Int)).f2 + 1 == (rd_T25 L (f : Int)).f2 + 1) = true from beq_self_eq_true _]
      exact hK'
theorem chain_j3 {hops : List S42} {C : List S27} {L : List S25} {n asn j : Int} {f i : Nat} (hA : ALLN C L n) (hn : 0 ≤ n ∧ n + 1 ≤ asn ∧ asn ≤ 800000000) (hf : f < L.length) (hi : i < L.length)
    (next : ∀ L', L'.length = L.length → ALLN C L' asn → EV (fun k => slotmeshtop_TopChain.l1 k hops true C L' asn (wrap64 (j + 1)))) :
    EV (fun k => slotmeshtop_TopChain.j3 k hops true C L asn j (f : Int) (i : Int)) := by
  have hlen := hA.1
  have hNf := hA.2.2 f hf
  have h1 := hNf.1
  have stay : ∀ s b, EV (fun k => slotmeshtop_TopChain.j4 k hops true C L asn j (f : Int) (i : Int) s b true) := by
    intro s b
    obtain ⟨K, hK⟩ := next L rfl (alln_later hA (by omega))
    refine ⟨K + 1, fun k hk => ?_⟩
    obtain ⟨k', rfl⟩ : ∃ k', k = k' + 1 := ⟨k - 1, by omega⟩
    show slotmeshtop_TopChain.j4 (k' + 1) hops true C L asn j (f : Int) (i : Int) s b true = some true
    rw [slotmeshtop_TopChain.j4, if_pos rfl]
    exact hK k' (by omega)
  have go : ∃ g : Nat → Option Bool, EV g ∧ ∀ k, 51 ≤ k → slotmeshtop_TopChain.j3 (k + 1) hops true C L asn j (f : Int) (i : Int) = g k := by
    have pre : ∀ k, 51 ≤ k → slotmeshtop_TopChain.j3 (k + 1) hops true C L asn j (f : Int) (i : Int) = slotmeshtop_TopChain.j3 (k + 1) hops true C L asn j (f : Int) (i : Int) := fun _ _ => rfl
    by_cases ok : (SLs (rd_T25 L (f : Int)) (rd_T27 C (f : Int)) asn).2.2 = 0 ∧ (BO (rd_T25 L (f : Int)).f0 (rd_T25 L (f : Int)).f1.f0 (rd_T25 L (f : Int)).f1.f1 (rd_T25 L (f : Int)).f1.f2 (rd_T25 L (f : Int)).f2 (rd_T25 L (f : Int)).f3 (rd_T25 L (f : Int)).f4 (AT (rd_T27 C (f : Int)).f0 (rd_T27 C (f : Int)).f1 (asn * 10000))).2 = 0 ∧
        (if ((f : Int) == 0) = true then (BO (rd_T25 L (f : Int)).f0 (rd_T25 L (f : Int)).f1.f0 (rd_T25 L (f : Int)).f1.f1 (rd_T25 L (f : Int)).f1.f2 (rd_T25 L (f : Int)).f2 (rd_T25 L (f : Int)).f3 (rd_T25 L (f : Int)).f4 (AT (rd_T27 C (f : Int)).f0 (rd_T27 C (f : Int)).f1 (asn * 10000))).1 else (BO (rd_T25 L (f : Int)).f0 (rd_T25 L (f : Int)).f1.f0 (rd_T25 L (f : Int)).f1.f1 (rd_T25 L (f : Int)).f1.f2 (rd_T25 L (f : Int)).f2 (rd_T25 L (f : Int)).f3 (rd_T25 L (f : Int)).f4 (AT (rd_T27 C (f : Int)).f0 (rd_T27 C (f : Int)).f1 (asn * 10000))).1 + 4) ≤ 2000 ∧ (rd_T25 L (f : Int)).f2 < 60
    · obtain ⟨o1, o2, o3, o4⟩ := ok
      obtain ⟨b, hb⟩ : ∃ b, (if ((f : Int) == 0) = true then (BO (rd_T25 L (f : Int)).f0 (rd_T25 L (f : Int)).f1.f0 (rd_T25 L (f : Int)).f1.f1 (rd_T25 L (f : Int)).f1.f2 (rd_T25 L (f : Int)).f2 (rd_T25 L (f : Int)).f3 (rd_T25 L (f : Int)).f4 (AT (rd_T27 C (f : Int)).f0 (rd_T27 C (f : Int)).f1 (asn * 10000))).1 else (BO (rd_T25 L (f : Int)).f0 (rd_T25 L (f : Int)).f1.f0 (rd_T25 L (f : Int)).f1.f1 (rd_T25 L (f : Int)).f1.f2 (rd_T25 L (f : Int)).f2 (rd_T25 L (f : Int)).f3 (rd_T25 L (f : Int)).f4 (AT (rd_T27 C (f : Int)).f0 (rd_T27 C (f : Int)).f1 (asn * 10000))).1 + 4) = b := ⟨_, rfl⟩
      have r := BO_range (sy := (rd_T25 L (f : Int)).f0) (l := (rd_T25 L (f : Int)).f1.f0) (h := (rd_T25 L (f : Int)).f1.f1) (a := (rd_T25 L (f : Int)).f1.f2) (ho := (rd_T25 L (f : Int)).f2) (so := (rd_T25 L (f : Int)).f3) (he := (rd_T25 L (f : Int)).f4) (now := AT (rd_T27 C (f : Int)).f0 (rd_T27 C (f : Int)).f1 (asn * 10000))
      have o1' := o1
      unfold SLs at o1'
      obtain ⟨p1, p2, p3, p4, p5, p6, p7⟩ := SL_ok o1'
      obtain ⟨t, t1, t2⟩ := node_true hNf (by omega) p4
      have hroot : ((f : Int) == 0) = true ↔ (rd_T25 L (f : Int)).f2 = 0 := by
        constructor
        · intro z
          have z' : f = 0 := by have := eq_of_beq z; omega
          exact (hNf.2.2.1 z').2.2.2
        · intro z
          by_cases y : f = 0
          · subst y; rfl
          · exact absurd z (hNf.2.2.2 y p4).1
      have o2' := o2
      rw [p4] at o2'
      have tn := told_near p3 p1 t1 (show 1 ≤ asn ∧ asn < 1000000000 by omega) t2 p5 p6 o2'
      have hbb : b = (BO true (rd_T25 L (f : Int)).f1.f0 (rd_T25 L (f : Int)).f1.f1 (rd_T25 L (f : Int)).f1.f2 (rd_T25 L (f : Int)).f2 (rd_T25 L (f : Int)).f3 (rd_T25 L (f : Int)).f4 (AT (rd_T27 C (f : Int)).f0 (rd_T27 C (f : Int)).f1 (asn * 10000))).1 + (if (rd_T25 L (f : Int)).f2 = 0 then 0 else 4) := by
        rw [← hb, p4]
        by_cases z : (rd_T25 L (f : Int)).f2 = 0
        · rw [if_pos (hroot.2 z), if_pos z, Int.add_zero]
        · rw [if_neg (fun q => z (hroot.1 q)), if_neg z]
      rw [← hbb] at tn
      have hst : (SLs (rd_T25 L (f : Int)) (rd_T27 C (f : Int)) asn).1 = FT (rd_T27 C (f : Int)).f0 (rd_T27 C (f : Int)).f1 (OW (rd_T25 L (f : Int)).f1.f0 (rd_T25 L (f : Int)).f1.f1 (rd_T25 L (f : Int)).f2 asn) - asn * 10000 := by
        unfold SLs; rw [p7]
      have hho : 0 ≤ (rd_T25 L (f : Int)).f2 := by
        by_cases z : (rd_T25 L (f : Int)).f2 = 0
        · omega
        · have := (SV_vp p3 z).1; omega
      have b0 : 0 ≤ b := by rw [← hb]; split <;> omega
      refine ⟨fun k => slotmeshtop_TopChain.j4 k hops true C L asn j (f : Int) (i : Int) (SLs (rd_T25 L (f : Int)) (rd_T27 C (f : Int)) asn).1 b ((f : Int) == (i : Int)), ?_, fun k hk => ?_⟩
      · cases q : ((f : Int) == (i : Int))
        · exact chain_j4 hA hn hf hi ⟨b0, by rw [← hb]; exact o3⟩ (by rw [hst]; exact tn) ⟨hho, o4⟩ next
        · exact stay _ _
      · rw [slotmeshtop_TopChain.j3, if_pos (by omega), if_pos (by omega), if_pos (by omega), Tells_ge hk _ _ _ _ h1 (by omega), Option.bind_some]
        dsimp only
        rw [hb, if_pos o1, o2, decide_eq_true (show b ≤ 2000 by rw [← hb]; exact o3), decide_eq_true o4]
        rw [if_pos (by simp)]
    · refine ⟨fun k => slotmeshtop_TopChain.j4 k hops true C L asn j (f : Int) (i : Int) (if (SLs (rd_T25 L (f : Int)) (rd_T27 C (f : Int)) asn).2.2 = 0 then ((SLs (rd_T25 L (f : Int)) (rd_T27 C (f : Int)) asn).1, 0) else (0, (SLs (rd_T25 L (f : Int)) (rd_T27 C (f : Int)) asn).2.2)).1 (if ((f : Int) == 0) = true then (BO (rd_T25 L (f : Int)).f0 (rd_T25 L (f : Int)).f1.f0 (rd_T25 L (f : Int)).f1.f1 (rd_T25 L (f : Int)).f1.f2 (rd_T25 L (f : Int)).f2 (rd_T25 L (f : Int)).f3 (rd_T25 L (f : Int)).f4 (AT (rd_T27 C (f : Int)).f0 (rd_T27 C (f : Int)).f1 (asn * 10000))).1 else (BO (rd_T25 L (f : Int)).f0 (rd_T25 L (f : Int)).f1.f0 (rd_T25 L (f : Int)).f1.f1 (rd_T25 L (f : Int)).f1.f2 (rd_T25 L (f : Int)).f2 (rd_T25 L (f : Int)).f3 (rd_T25 L (f : Int)).f4 (AT (rd_T27 C (f : Int)).f0 (rd_T27 C (f : Int)).f1 (asn * 10000))).1 + 4) true, stay _ _, fun k hk => ?_⟩
      · rw [slotmeshtop_TopChain.j3, if_pos (by omega), if_pos (by omega), if_pos (by omega), Tells_ge hk _ _ _ _ h1 (by omega), Option.bind_some]
        dsimp only
        rw [if_neg]
        intro z
        apply ok
        simp only [Bool.and_eq_true, beq_iff_eq, decide_eq_true_eq] at z
        obtain ⟨z1, _, z3, z4, z5⟩ := z
        refine ⟨?_, z3, ?_, z5⟩
        · by_cases y : (SLs (rd_T25 L (f : Int)) (rd_T27 C (f : Int)) asn).2.2 = 0
          · exact y
          · rw [if_neg y] at z1; exact absurd z1 y
        · simpa only [beq_iff_eq] using z4
  obtain ⟨g, ⟨K, hK⟩, hg⟩ := go
  refine ⟨K + 60, fun k hk => ?_⟩
  obtain ⟨k', rfl⟩ : ∃ k', k = k' + 1 := ⟨k - 1, by omega⟩
  show slotmeshtop_TopChain.j3 (k' + 1) hops true C L asn j (f : Int) (i : Int) = some true
  rw [hg k' (by omega)]
  exact hK k' (by omega)
end Go.Proofs.Ytdpihbhkghjclaa.P
end
section
/- All beacons, one after the other; and how the nodes begin. Conditions: none. -/
namespace Go.Proofs.Ytdpihbhkghjclaa.P
open Go.RowKit Go.Proofs.YtdpihbhkghjclaaW.PrintWords Go.Proofs.YtdpihbhkghjclaaW.PrintLast Go.Proofs.YtdpihbhkghjclaaW.PrintMore
set_option linter.unusedVariables false
set_option linter.unusedSimpArgs false
theorem chain_l1 {hops : List S42} {C : List S27} (wh : ∀ x ∈ hops, (Lit.int .u8 x.f0).wf = true ∧ (Lit.int .u8 x.f1).wf = true ∧ (Lit.int .u16 x.f2).wf = true) (h60 : hops.length ≤ 60) (hC : 0 < C.length) :
    ∀ (m q : Nat) (L : List S25) (asn : Int), m = hops.length - q → q ≤ hops.length → 0 ≤ asn → asn ≤ 500000000 + 2000 * (q : Int) → ALLN C L asn → EV (fun k => slotmeshtop_TopChain.l1 k hops true C L asn (q : Int)) := by
  intro m
  induction m with
  | zero =>
    intro q L asn e hq h0 h1 hA
    refine ⟨1, fun k hk => ?_⟩
    obtain ⟨k', rfl⟩ : ∃ k', k = k' + 1 := ⟨k - 1, by omega⟩
    show slotmeshtop_TopChain.l1 (k' + 1) hops true C L asn (q : Int) = some true
    rw [slotmeshtop_TopChain.l1, if_neg (by omega)]
  | succ m ih =>
    intro q L asn e hq h0 h1 hA
    have hmem : rd_T42 hops (q : Int) ∈ hops := by
      unfold rd_T42
      rw [Int.toNat_natCast, List.getD_eq_getElem?_getD, List.getElem?_eq_getElem (show q < hops.length by omega)]
      exact List.getElem_mem _
    obtain ⟨w1, w2, w3⟩ := wh _ hmem
    have b1 := wfu8 w1
    have b2 := wfu8 w2
    have b3 := wfu16 w3
    have hl := hA.1
    have h7 := hA.2.1
    obtain ⟨d, hd⟩ : ∃ d, Int.tmod (rd_T42 hops (q : Int)).f2 2000 = d := ⟨_, rfl⟩
    have hdr : 0 ≤ d ∧ d ≤ 1999 := by rw [← hd, Int.tmod_eq_emod_of_nonneg b3.1]; omega
    obtain ⟨f, hf⟩ : ∃ f : Nat, Int.tmod (rd_T42 hops (q : Int)).f0 (L.length : Int) = (f : Int) ∧ f < L.length := by
      have := Int.emod_nonneg (rd_T42 hops (q : Int)).f0 (show (L.length : Int) ≠ 0 by omega)
      have := Int.emod_lt_of_pos (rd_T42 hops (q : Int)).f0 (show (0 : Int) < (L.length : Int) by omega)
      refine ⟨((rd_T42 hops (q : Int)).f0 % (L.length : Int)).toNat, ?_, by omega⟩
      rw [Int.tmod_eq_emod_of_nonneg b1.1]
      omega
    obtain ⟨i, hi⟩ : ∃ f : Nat, Int.tmod (rd_T42 hops (q : Int)).f1 (L.length : Int) = (f : Int) ∧ f < L.length := by
      have := Int.emod_nonneg (rd_T42 hops (q : Int)).f1 (show (L.length : Int) ≠ 0 by omega)
      have := Int.emod_lt_of_pos (rd_T42 hops (q : Int)).f1 (show (0 : Int) < (L.length : Int) by omega)
      refine ⟨((rd_T42 hops (q : Int)).f1 % (L.length : Int)).toNat, ?_, by omega⟩
      rw [Int.tmod_eq_emod_of_nonneg b2.1]
      omega
    have next : ∀ L', L'.length = L.length → ALLN C L' (asn + (1 + d)) → EV (fun k => slotmeshtop_TopChain.l1 k hops true C L' (asn + (1 + d)) (wrap64 ((q : Int) + 1))) := by
      intro L' _ hA'
      rw [w64 (x := (q : Int) + 1) (by omega), show (q : Int) + 1 = ((q + 1 : Nat) : Int) by omega]
      exact ih (q + 1) L' (asn + (1 + d)) (by omega) (by omega) (by omega) (by omega) hA'
    obtain ⟨K1, hK1⟩ := chain_j3 (j := (q : Int)) hA ⟨h0, by omega, by omega⟩ hf.2 hi.2 next
    obtain ⟨K2, hK2⟩ := catch_all hA ⟨h0, by omega⟩ (asn + (1 + d))
    refine ⟨K1 + K2 + 1, fun k hk => ?_⟩
    obtain ⟨k', rfl⟩ : ∃ k', k = k' + 1 := ⟨k - 1, by omega⟩
    show slotmeshtop_TopChain.l1 (k' + 1) hops true C L asn (q : Int) = some true
    rw [slotmeshtop_TopChain.l1, if_pos (by omega), if_pos (by omega), if_neg (by omega), w64 (x := (rd_T42 hops (q : Int)).f2) (by omega), w64 (x := (rd_T42 hops (q : Int)).f0) (by omega), w64 (x := (rd_T42 hops (q : Int)).f1) (by omega), hd, hf.1, hi.1, w64 (x := 1 + d) (by omega), w64 (x := asn + (1 + d)) (by omega), hK2 k' (by omega), Option.bind_some, if_pos rfl]
    exact hK1 k' (by omega)
theorem chain_l0 (hops : List S42) (a2 : Int) (C : List S27) (wh : ∀ x ∈ hops, (Lit.int .u8 x.f0).wf = true ∧ (Lit.int .u8 x.f1).wf = true ∧ (Lit.int .u16 x.f2).wf = true) (h60 : (hops.length : Int) ≤ 60) (ba : 0 ≤ a2 ∧ a2 ≤ 4294967295) (hC : 0 < C.length ∧ C.length ≤ 7) (z0 : (rd_T27 C 0).f0 = 0) (z1 : (rd_T27 C 0).f1 = 0) :
    ∀ (m q : Nat) (L : List S25), m = C.length - q → L.length = q → q ≤ C.length → (∀ j : Nat, j < q → NODE j (rd_T27 C (j : Int)) (rd_T25 L (j : Int)) 0) → EV (fun k => slotmeshtop_TopChain.l0 k hops a2 true C L (q : Int)) := by
  intro m
  induction m with
  | zero =>
    intro q L e hL hq hN
    obtain ⟨d, hd⟩ : ∃ d, Int.tmod a2 500000000 = d := ⟨_, rfl⟩
    have hdr : 0 ≤ d ∧ d ≤ 500000000 := by rw [← hd, Int.tmod_eq_emod_of_nonneg ba.1]; omega
    obtain ⟨K, hK⟩ := chain_l1 (C := C) wh (by omega) hC.1 hops.length 0 L d rfl (by omega) hdr.1 (by omega) ⟨by omega, by omega, fun j hj => node_later (hN j (by omega)) hdr.1⟩
    refine ⟨K + 1, fun k hk => ?_⟩
    obtain ⟨k', rfl⟩ : ∃ k', k = k' + 1 := ⟨k - 1, by omega⟩
    show slotmeshtop_TopChain.l0 (k' + 1) hops a2 true C L (q : Int) = some true
    rw [slotmeshtop_TopChain.l0, if_neg (by omega), w64 (x := a2) (by omega), hd]
    exact hK k' (by omega)
  | succ m ih =>
    intro q L e hL hq hN
    by_cases c : CV (rd_T27 C (q : Int)).f0 (rd_T27 C (q : Int)).f1
    rotate_left
    · refine ⟨1, fun k hk => ?_⟩
      obtain ⟨k', rfl⟩ : ∃ k', k = k' + 1 := ⟨k - 1, by omega⟩
      show slotmeshtop_TopChain.l0 (k' + 1) hops a2 true C L (q : Int) = some true
      rw [slotmeshtop_TopChain.l0, if_pos (by omega), if_pos (by omega), rcvalid_eq, decide_eq_false c, Option.bind_some, if_neg (by decide)]
    have app : ∀ (v : S25) (j : Nat), rd_T25 (L ++ [v]) (j : Int) = if j < q then rd_T25 L (j : Int) else if j = q then v else z25 := by
      intro v j
      unfold rd_T25
      rw [Int.toNat_natCast, List.getD_eq_getElem?_getD, List.getD_eq_getElem?_getD, List.getElem?_append]
      by_cases y : j < q
      · rw [if_pos (by omega), if_pos y]
      · rw [if_neg (by omega), if_neg y]
        by_cases y2 : j = q
        · rw [if_pos y2, show j - L.length = 0 by omega]; rfl
        · rw [if_neg y2, show j - L.length = (j - L.length - 1) + 1 by omega]; rfl
    have go : ∀ v : S25, NODE q (rd_T27 C (q : Int)) v 0 → EV (fun k => slotmeshtop_TopChain.l0 k hops a2 true C (L ++ [v]) (wrap64 ((q : Int) + 1))) := by
      intro v hv
      rw [w64 (x := (q : Int) + 1) (by omega), show (q : Int) + 1 = ((q + 1 : Nat) : Int) by omega]
      refine ih (q + 1) (L ++ [v]) (by omega) (by simp [hL]) (by omega) (fun j hj => ?_)
      rw [app v j]
      by_cases y : j < q
      · rw [if_pos y]; exact hN j y
      · have y2 : j = q := by omega
        rw [if_neg y, if_pos y2, y2]; exact hv
    by_cases c0 : q = 0
    · have hT : SV true 0 0 0 0 (-1) 0 := by unfold SV; simp
      obtain ⟨K, hK⟩ := go (⟨true, (⟨0, 0, 0⟩ : S23), 0, (-1), 0⟩ : S25) ⟨c, hT, fun _ => by subst c0; exact ⟨z0, z1, rfl, rfl⟩, fun y => absurd c0 y⟩
      refine ⟨K + 1, fun k hk => ?_⟩
      obtain ⟨k', rfl⟩ : ∃ k', k = k' + 1 := ⟨k - 1, by omega⟩
      show slotmeshtop_TopChain.l0 (k' + 1) hops a2 true C L (q : Int) = some true
      have b : (((q : Nat) : Int) == 0) = true := by subst c0; rfl
      rw [slotmeshtop_TopChain.l0, if_pos (by omega), if_pos (by omega), rcvalid_eq, decide_eq_true c, Option.bind_some, if_pos rfl, b, timesync_Start.f, if_pos rfl, Option.bind_some, if_pos (by omega)]
      exact hK k' (by omega)
    · have hF : SV false 0 0 0 60 (-1) 0 := by unfold SV; simp
      obtain ⟨K, hK⟩ := go (⟨false, (⟨0, 0, 0⟩ : S23), 60, (-1), 0⟩ : S25) ⟨c, hF, fun y => absurd y c0, fun _ y => absurd y (by decide)⟩
      refine ⟨K + 1, fun k hk => ?_⟩
      obtain ⟨k', rfl⟩ : ∃ k', k = k' + 1 := ⟨k - 1, by omega⟩
      show slotmeshtop_TopChain.l0 (k' + 1) hops a2 true C L (q : Int) = some true
      have b : (((q : Nat) : Int) == 0) = false := beq_eq_false_iff_ne.2 (by omega)
      rw [slotmeshtop_TopChain.l0, if_pos (by omega), if_pos (by omega), rcvalid_eq, decide_eq_true c, Option.bind_some, if_pos rfl, b, timesync_Start.f, if_neg (by decide), Option.bind_some, if_pos (by omega)]
      exact hK k' (by omega)
end Go.Proofs.Ytdpihbhkghjclaa.P
end
section
/- The example of the two laws on time holds. Conditions: none. -/
namespace Go.Proofs.Ytdpihbhkghjclaa.P
open Go.RowKit Go.Proofs.YtdpihbhkghjclaaW.PrintWords Go.Proofs.YtdpihbhkghjclaaW.PrintLast Go.Proofs.YtdpihbhkghjclaaW.PrintMore
set_option linter.unusedVariables false
set_option linter.unusedSimpArgs false
theorem wtime : slotmeshtop_w17Time.f 60 = some true := by kernel_rfl
end Go.Proofs.Ytdpihbhkghjclaa.P
end
section
/- The pure statement of TopChain. Conditions: none. -/
namespace Go.Proofs.Ytdpihbhkghjclaa.P
open Go.RowKit Go.Proofs.YtdpihbhkghjclaaW.PrintWords Go.Proofs.YtdpihbhkghjclaaW.PrintLast Go.Proofs.YtdpihbhkghjclaaW.PrintMore
set_option linter.unusedVariables false
set_option linter.unusedSimpArgs false
theorem TopChain_pure : ∀ (l0 : List S27) (l1 : List S42) (a2 : Int), (∀ x ∈ l0, (Lit.int .i64 x.f0).wf = true ∧ (Lit.int .i64 x.f1).wf = true) → (∀ x ∈ l1, (Lit.int .u8 x.f0).wf = true ∧ (Lit.int .u8 x.f1).wf = true ∧ (Lit.int .u16 x.f2).wf = true) → (Lit.int .u32 a2).wf = true → ∃ k, slotmeshtop_TopChain.f k l0 l1 a2 = some true := by
  intro l0 l1 a2 wc wh wa
  have ba := wfu32 wa
  have stop : ∀ k, slotmeshtop_TopChain.j0 (k + 1) l0 l1 a2 true true = some true := by
    intro k; rw [slotmeshtop_TopChain.j0, if_pos rfl]
  unfold slotmeshtop_TopChain.f
  by_cases c1 : (l0.length : Int) = 0
  · exact ⟨60, by rw [wtime, Option.bind_some, if_pos c1]; exact stop 59⟩
  by_cases c2 : (l0.length : Int) > 6
  · exact ⟨60, by rw [wtime, Option.bind_some, if_neg c1, if_pos c2]; exact stop 59⟩
  by_cases c3 : (l1.length : Int) > 60
  · exact ⟨60, by rw [wtime, Option.bind_some, if_neg c1, if_neg c2, decide_eq_true c3]; exact stop 59⟩
  have ev : EV (fun k => slotmeshtop_TopChain.l0 k l1 a2 true (([(⟨0, 0⟩ : S27)] : List S27) ++ l0) ([] : List S25) 0) :=
    chain_l0 l1 a2 _ wh (by omega) ba (by simp; omega) rfl rfl (l0.length + 1) 0 [] (by simp) rfl (by omega) (fun q hq => absurd hq (Nat.not_lt_zero q))
  obtain ⟨K, hK⟩ := ev
  refine ⟨K + 61, ?_⟩
  have w2 : slotmeshtop_w17Time.f (K + 61) = some true := at_rounds (g := fun k => slotmeshtop_w17Time.f k) (fun k => slotmeshtop_w17Time.mono k) (show 60 ≤ K + 61 by omega) wtime
  rw [w2, Option.bind_some, if_neg c1, if_neg c2, decide_eq_false c3, show K + 61 = (K + 60) + 1 from rfl, slotmeshtop_TopChain.j0, if_neg (by decide), Option.bind_some]
  rw [if_pos (by simp; omega)]
  exact hK (K + 60) (by omega)
end Go.Proofs.Ytdpihbhkghjclaa.P
end
section
/- The call of TopChain answers true, out of its pure statement. Conditions: none. -/
namespace Go.Proofs.Ytdpihbhkghjclaa.P
open Go.RowKit Go.Proofs.YtdpihbhkghjclaaW.PrintWords
theorem TopChain_walk (A0 : Option Addr) (c0 : Nat) (l0 : List S27) (A1 : Option Addr) (c1 : Nat) (l1 : List S42) (a2 : Int) (w : World) (hr0 : Kd.C k27 w A0 l0.length l0) (hc0 : l0.length ≤ c0) (w0 : ∀ x ∈ l0, (Lit.int .i64 x.f0).wf = true ∧ (Lit.int .i64 x.f1).wf = true) (hr1 : Kd.C k42 w A1 l1.length l1) (hc1 : l1.length ≤ c1) (w1 : ∀ x ∈ l1, (Lit.int .u8 x.f0).wf = true ∧ (Lit.int .u8 x.f1).wf = true ∧ (Lit.int .u16 x.f2).wf = true) (w2 : (Lit.int .u32 a2).wf = true) :
    Calls Try.prog 4 #[.slice A0 l0.length c0, .slice A1 l1.length c1, .int .u32 a2] w fun e w' => e = .returned (.bool true) ∧ Below w.heap.size w w' := by
  obtain ⟨k, h⟩ := TopChain_pure l0 l1 a2 w0 w1 w2
  refine (slotmeshtop_TopChain.calls k A0 c0 l0 A1 c1 l1 a2 true w hr0 hc0 hr1 hc1 h).mono ?_
  rintro e w' ⟨rfl, hd⟩
  exact ⟨rfl, hd⟩
end Go.Proofs.Ytdpihbhkghjclaa.P
end
section
/- The given statement of TopChain: for every input it answers true, and the input reads as before. Conditions: none. -/
namespace Go.Proofs.Ytdpihbhkghjclaa.topChain
open Go.ChangeShapes Go.WideShapes Go.ChangeAt Go.RowKit
set_option linter.unusedVariables false
set_option maxRecDepth 100000
theorem own : ownKnob Try.prog.godebug = none := by kernel_rfl
theorem laidOut : laidOutB Try.prog = true := by kernel_rfl
set_option maxRecDepth 100000 in
theorem lifted (os : Os) (started : os.Started) (H : Type) (enc : TypeId × Value → H) :
    ReturnsInHanded {} Try.checked os 4 .any (Rows.topChainSpec.pre6 enc Try.prog Try.f4 Rows.topChainRow.domain false) (Rows.topChainSpec.post enc Try.prog Try.f4 false true false false) := by
  refine returnsInHanded_of_change_sized (C := Try.checked) own started (by kernel_rfl) Try.func4
    (ChangeSpec.witness6 (enc := enc) (C := Try.checked) false ⟨#[], #[.slice none 0 0, .slice none 0 0, .int .u32 0], []⟩ 8 (by kernel_rfl) (by kernel_rfl) (by kernel_rfl) (by kernel_rfl)) ?_
  intro W base args ds gs before hval0 hW hcnd hsz0 _
  have hval : ∀ (j : Nat) t v, Try.f4.params[j]? = some t → args[j]? = some v → Value.okWide Try.prog W .any base t v := hval0
  have hW' := hW
  obtain ⟨p, q, hA0, hV, rfl, hfz, hnd⟩ := hW
  have hA : DataW.TrodAll enc Try.prog W 0 (fun _ => true) true Try.f4.params.toList args.toList ds p := hA0
  rw [Try.params4] at hA hval
  obtain ⟨v0, vs0, d0, ds0, p0, q0, hargs, rfl, rfl, h0, r0⟩ := trodAll_cons hA
  obtain ⟨v1, vs1, d1, ds1, p1, q1, rfl, rfl, rfl, h1, r1⟩ := trodAll_cons r0
  obtain ⟨v2, vs2, d2, ds2, p2, q2, rfl, rfl, rfl, h2, r2⟩ := trodAll_cons r1
  obtain ⟨rfl, rfl, rfl⟩ := trodAll_nil r2
  obtain rfl : args = #[v0, v1, v2] := by cases args; simp_all
  obtain ⟨rfl, rfl⟩ := trodVars_none hV
  have lt0 : ∀ x ∈ p0, x.block < W.heap.size := by obtain ⟨m, hm⟩ := h0; exact DataW.trod_lt m _ _ _ hm
  obtain ⟨A0, c0, l0, rfl, hc0, hr0, w0⟩ := opens34 (hval 0 34 v0 rfl rfl) h0
  have lt1 : ∀ x ∈ p1, x.block < W.heap.size := by obtain ⟨m, hm⟩ := h1; exact DataW.trod_lt m _ _ _ hm
  obtain ⟨A1, c1, l1, rfl, hc1, hr1, w1⟩ := opens35 (hval 1 35 v1 rfl rfl) h1
  obtain ⟨a2, rfl, rfl, rfl, w2⟩ := open_int Try.underlying36 (hval 2 36 v2 rfl rfl) h2
  clear hA0 hval0 hsz0
  refine (P.TopChain_walk A0 c0 l0 A1 c1 l1 a2 W hr0 hc0 w0 hr1 hc1 w1 w2).mono fun e W' ⟨he, bel⟩ => ?_
  subst he
  exact ⟨_, rfl, _, _, _, [], _, [], hW', trodAll_mk1 (shut_bool Try.underlying4 _), (trodAll_cons_mk (Below.trod laidOut (by kernel_rfl) (of_decide_eq_true (by kernel_rfl)) h0 bel lt0) (trodAll_cons_mk (Below.trod laidOut (by kernel_rfl) (of_decide_eq_true (by kernel_rfl)) h1 bel lt1) (trodAll_cons_mk (shut_int Try.underlying36 w2) trodAll_mk0))), rfl, bel.frame _, fun h => by cases h⟩
theorem over : Rows.topChainRow.holds Try.pinned (OpenSpec.ofChange Rows.topChainSpec) :=
  OpenClaim.holds_of_wide 4 Try.f4 rfl rfl rfl rfl rfl rfl rfl ⟨rfl, rfl, rfl, rfl, rfl⟩ rfl rfl rfl rfl rfl (by kernel_rfl) Try.func4 (by kernel_rfl)
    (of_decide_eq_true (by kernel_rfl)) (by unfold Func.isWrapper; first | (rw [if_pos (by decide +kernel)]; kernel_rfl) | (rw [if_neg (by decide +kernel)]; exact ⟨rfl, rfl⟩))
    (fun os started H enc _ => lifted os started H enc)
theorem proved : Rows.TopChainSaid := over
end Go.Proofs.Ytdpihbhkghjclaa.topChain
namespace Go.Proofs.Ytdpihbhkghjclaa
theorem topChain_holds : Rows.TopChainSaid := topChain.proved
#print axioms topChain_holds
end Go.Proofs.Ytdpihbhkghjclaa
end
