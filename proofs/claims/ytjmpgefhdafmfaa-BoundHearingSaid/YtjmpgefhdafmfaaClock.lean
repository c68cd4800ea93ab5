/- Plain laws of what a clock shows. Conditions: none. -/
import Derived.Test.YtjmpgefhdafmfaaPx28
import Derived.Test.YtjmpgefhdafmfaaPx30
import Derived.Test.YtjmpgefhdafmfaaBase
namespace Go.Proofs.Ytjmpgefhdafmfaa.P
open Go.RowKit Go.Proofs.YtjmpgefhdafmfaaW.PrintWords Go.Proofs.YtjmpgefhdafmfaaW.PrintLast Go.Proofs.YtjmpgefhdafmfaaW.PrintMore
set_option linter.unusedVariables false
set_option linter.unusedSimpArgs false
theorem mul_bd {d t : Int} (h1 : -50 ≤ d) (h2 : d ≤ 50) (ht : 0 ≤ t) : -50 * t ≤ d * t ∧ d * t ≤ 50 * t :=
  ⟨Int.mul_le_mul_of_nonneg_right h1 ht, Int.mul_le_mul_of_nonneg_right h2 ht⟩
theorem mul_df {d x y : Int} (h1 : -50 ≤ d) (h2 : d ≤ 50) (h : x ≤ y) : -50 * (y - x) ≤ d * y - d * x ∧ d * y - d * x ≤ 50 * (y - x) := by
  have := mul_bd h1 h2 (t := y - x) (by omega)
  rw [Int.mul_sub d] at this
  exact this
/-- What a clock shows. -/
def AT (off d t : Int) : Int := t + off + (d * t) / 1000000
def CV (off d : Int) : Prop := -1000000000 ≤ off ∧ off ≤ 1000000000 ∧ -50 ≤ d ∧ d ≤ 50
instance (off d : Int) : Decidable (CV off d) := by unfold CV; exact inferInstance
theorem floor_eq (p : Int) : (if Int.tmod p 1000000 < 0 then Int.tdiv p 1000000 - 1 else Int.tdiv p 1000000) = p / 1000000 := by
  by_cases h : 0 ≤ p
  · rw [Int.tmod_eq_emod_of_nonneg h, Int.tdiv_eq_ediv_of_nonneg h, if_neg (by omega)]
  · obtain ⟨q, rfl⟩ : ∃ q, p = -q := ⟨-p, by omega⟩
    rw [Int.neg_tmod, Int.neg_tdiv, Int.tmod_eq_emod_of_nonneg (by omega), Int.tdiv_eq_ediv_of_nonneg (by omega)]
    split <;> omega
theorem at_eq {off d t : Int} (hv : CV off d) (h0 : 0 ≤ t) (h1 : t ≤ 10000000000000) : clock_clock_at.f off d t = some (AT off d t) := by
  unfold CV at hv
  have hb := mul_bd hv.2.2.1 hv.2.2.2 h0
  have hf := floor_eq (d * t)
  unfold clock_clock_at.f AT
  rw [w64 (x := d * t) (by omega), w64 (x := t + off) (by omega)]
  generalize d * t = p at *
  by_cases h : Int.tmod p 1000000 < 0
  · rw [if_pos h] at hf ⊢
    rw [w64 (x := Int.tdiv p 1000000) (by omega), hf, w64 (x := p / 1000000) (by omega), w64 (by omega)]
  · rw [if_neg h] at hf ⊢
    rw [hf, w64 (x := p / 1000000) (by omega), w64 (by omega)]
theorem cvalid_eq (off d : Int) : clock_Valid.f off d = some (decide (CV off d)) := by
  unfold clock_Valid.f clock_in.f CV
  rw [w64 (x := -1000000000) (by omega), w64 (x := -50) (by omega)]
  by_cases h1 : off ≥ -1000000000 <;> by_cases h2 : off ≤ 1000000000 <;> by_cases h3 : d ≥ -50 <;> by_cases h4 : d ≤ 50 <;> simp [h1, h2, h3, h4] <;> omega
theorem Show_eq (off d t : Int) : clock_Show.f off d t = some (if CV off d ∧ 0 ≤ t ∧ t ≤ 10000000000000 then (AT off d t, 0) else (0, 1)) := by
  unfold clock_Show.f
  rw [cvalid_eq]
  by_cases h1 : CV off d
  · by_cases h2 : t < 0
    · rw [if_neg (show ¬ (CV off d ∧ 0 ≤ t ∧ t ≤ 10000000000000) from fun hh => by omega), decide_eq_true h1]
      simp only [Option.bind_some, if_true]
      rw [if_pos h2]
    · by_cases h3 : t > 10000000000000
      · rw [if_neg (show ¬ (CV off d ∧ 0 ≤ t ∧ t ≤ 10000000000000) from fun hh => by omega), decide_eq_true h1]
        simp only [Option.bind_some, if_true]
        rw [if_neg h2, if_pos h3]
      · rw [if_pos (show CV off d ∧ 0 ≤ t ∧ t ≤ 10000000000000 from ⟨h1, by omega, by omega⟩), decide_eq_true h1]
        simp only [Option.bind_some, if_true]
        rw [if_neg h2, if_neg h3, at_eq h1 (by omega) (by omega)]
        rfl
  · rw [if_neg (show ¬ (CV off d ∧ 0 ≤ t ∧ t ≤ 10000000000000) from fun hh => h1 hh.1), decide_eq_false h1]
    rfl
theorem True_eq (l h a t s : Int) (hb : -9000000000000000000 ≤ t - s ∧ t - s ≤ 9000000000000000000) : slotmeshref08_True.f l h a t s = some (decide (a = s ∧ l ≤ t - s ∧ t - s ≤ h)) := by
  unfold slotmeshref08_True.f
  rw [w64 (x := t - s) (by omega)]
  by_cases h1 : a = s <;> by_cases h2 : t - s ≥ l <;> by_cases h3 : t - s ≤ h <;> simp [h1, h2, h3] <;> omega
/-- What a clock shows lies near the true time, and runs with it. -/
theorem AT_near {off d t : Int} (hv : CV off d) (h0 : 0 ≤ t) (h1 : t ≤ 10000000000000) : -1500000001 ≤ AT off d t - t ∧ AT off d t - t ≤ 1500000001 ∧ -2000000000 ≤ AT off d t ∧ AT off d t ≤ 20000000000000 := by
  unfold CV at hv
  have hb := mul_bd hv.2.2.1 hv.2.2.2 h0
  unfold AT
  generalize d * t = p at *
  omega
theorem AT_mono {off d x y : Int} (hv : CV off d) (h : x ≤ y) : AT off d x ≤ AT off d y := by
  unfold CV at hv
  have hb := mul_df hv.2.2.1 hv.2.2.2 h
  unfold AT
  generalize d * x = p at *
  generalize d * y = q at *
  omega
/-- Growing keeps a span true. -/
theorem AT_grow {off d x y : Int} (hv : CV off d) (h : x ≤ y) : -(MO (AT off d y - AT off d x)) ≤ (y - AT off d y) - (x - AT off d x) ∧ (y - AT off d y) - (x - AT off d x) ≤ MO (AT off d y - AT off d x) := by
  unfold CV at hv
  have hb := mul_df hv.2.2.1 hv.2.2.2 h
  unfold AT MO
  generalize d * x = p at *
  generalize d * y = q at *
  omega
end Go.Proofs.Ytjmpgefhdafmfaa.P
