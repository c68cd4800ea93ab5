/- The pure statement of BoundGrowing. Conditions: none. -/
import Derived.Test.YtjmpgefhdafmfaaPx31
import Derived.Test.YtjmpgefhdafmfaaBase
import Derived.Test.YtjmpgefhdafmfaaClock
namespace Go.Proofs.Ytjmpgefhdafmfaa.P
open Go.RowKit Go.Proofs.YtjmpgefhdafmfaaW.PrintWords Go.Proofs.YtjmpgefhdafmfaaW.PrintLast Go.Proofs.YtjmpgefhdafmfaaW.PrintMore
set_option linter.unusedVariables false
set_option linter.unusedSimpArgs false
theorem wfu64 {a : Int} (h : (Lit.int .u64 a).wf = true) : 0 ≤ a ∧ a ≤ 18446744073709551615 := by
  simpa [Lit.wf, IntKind.min, IntKind.max, IntKind.bits, IntKind.signed] using h
theorem wfu32 {a : Int} (h : (Lit.int .u32 a).wf = true) : 0 ≤ a ∧ a ≤ 4294967295 := by
  simpa [Lit.wf, IntKind.min, IntKind.max, IntKind.bits, IntKind.signed] using h
theorem time_eq {a : Int} (h : 0 ≤ a) : ∃ t, slotmeshlaw08_time.f a = some t ∧ 0 ≤ t ∧ t ≤ 10000000000000 := by
  refine ⟨a % 10000000000001, ?_, by omega, by omega⟩
  unfold slotmeshlaw08_time.f
  rw [Int.tmod_eq_emod_of_nonneg h, w64 (by omega)]
theorem rvalid_eq (l h a : Int) : slotmeshref08_Valid.f l h a = some (decide (VP l h a)) := by
  unfold slotmeshref08_Valid.f VP
  by_cases h1 : l ≥ -20000000000000 <;> by_cases h2 : l ≤ h <;> by_cases h3 : h ≤ 20000000000000 <;> by_cases h4 : a ≥ -2000000000 <;> by_cases h5 : a ≤ 20000000000000 <;> simp [h1, h2, h3, h4, h5] <;> omega
/-- The span that is true by construction. -/
theorem truth_eq (off d t less more : Int) (ht : 0 ≤ t ∧ t ≤ 10000000000000) (hl : 0 ≤ less ∧ less ≤ 4294967295) (hm : 0 ≤ more ∧ more ≤ 4294967295) :
    (∃ l h a, slotmeshlaw08_truth.f off d t less more = some (l, h, a, false)) ∨ (CV off d ∧ VP (t - AT off d t - less) (t - AT off d t + more) (AT off d t) ∧ slotmeshlaw08_truth.f off d t less more = some (t - AT off d t - less, t - AT off d t + more, AT off d t, true)) := by
  unfold slotmeshlaw08_truth.f
  rw [Show_eq]
  by_cases h1 : CV off d
  · have hn := AT_near h1 ht.1 ht.2
    rw [if_pos ⟨h1, ht.1, ht.2⟩]
    simp only [Option.bind_some, if_true]
    generalize AT off d t = s at *
    rw [w64 (x := t - s) (by omega), w64 (x := less) (by omega), w64 (x := more) (by omega), w64 (x := t - s - less) (by omega), w64 (x := t - s + more) (by omega), rvalid_eq]
    by_cases h2 : VP (t - s - less) (t - s + more) s
    · exact .inr ⟨h1, h2, by simp [h2]⟩
    · exact .inl ⟨_, _, _, by simp [h2]; exact ⟨rfl, rfl, rfl⟩⟩
  · left
    rw [if_neg (fun hh => h1 hh.1)]
    simp only [Option.bind_some, show ¬ ((1 : Int) = 0) from by decide, if_false]
    exact ⟨_, _, _, rfl⟩
theorem BoundGrowing_pure : ∀ (a0_0 : Int) (a0_1 : Int) (a1 : Int) (a2 : Int) (a3 : Int) (a4 : Int), (Lit.int .i64 a0_0).wf = true → (Lit.int .i64 a0_1).wf = true → (Lit.int .u64 a1).wf = true → (Lit.int .u64 a2).wf = true → (Lit.int .u32 a3).wf = true → (Lit.int .u32 a4).wf = true → ∃ k, slotmeshlaw08_BoundGrowing.f k a0_0 a0_1 a1 a2 a3 a4 = some true := by
  intro off d t u less more w0 w1 w2 w3 w4 w5
  refine ⟨1 + 6, ?_⟩
  obtain ⟨x, hx, hx0, hx1⟩ := time_eq (wfu64 w2).1
  obtain ⟨y, hy, hy0, hy1⟩ := time_eq (wfu64 w3).1
  unfold slotmeshlaw08_BoundGrowing.f slotmeshlaw08_head.f
  rw [hx, hy]
  simp only [Option.bind_some]
  have hxy : 0 ≤ mn x y ∧ mn x y ≤ mx x y ∧ mx x y ≤ 10000000000000 := by unfold mn mx; split <;> split <;> omega
  generalize mn x y = s at *
  generalize mx x y = v at *
  rw [Show_eq]
  simp only [Option.bind_some]
  rcases truth_eq off d s less more ⟨by omega, by omega⟩ (wfu32 w4) (wfu32 w5) with ⟨l, h, a, e⟩ | ⟨hv, hp, e⟩
  · rw [e]; rfl
  · rw [e, if_pos ⟨hv, by omega, hxy.2.2⟩, show 1 + 6 = 6 + 1 from rfl]
    have l1 := wfu32 w4
    have l2 := wfu32 w5
    have n1 := AT_near hv hxy.1 (by omega)
    have n2 := AT_near hv (show 0 ≤ v by omega) hxy.2.2
    have n3 := AT_mono hv hxy.2.1
    have n4 := AT_grow hv hxy.2.1
    simp only [Option.bind_some, if_true, slotmeshlaw08_BoundGrowing.j0, bne_self_eq_false, Bool.false_eq_true, if_false]
    rw [show 6 = 0 + 6 from rfl, Grow_eq]
    generalize AT off d s = p at *
    generalize AT off d v = q at *
    have hm : 0 ≤ MO (q - p) ∧ MO (q - p) ≤ 1000000000000 := by unfold MO; omega
    have hg : G (s - p - less) (s - p + more) p q = (s - p - less - MO (q - p), s - p + more + MO (q - p), q, 0) := by
      unfold G
      rw [if_pos ⟨hp, by omega, by omega⟩, if_pos (by unfold VP; omega)]
    rw [hg]
    simp only [Option.bind_some, if_true]
    rw [True_eq _ _ _ _ _ (by omega), decide_eq_true ⟨rfl, by omega, by omega⟩]
    rfl
end Go.Proofs.Ytjmpgefhdafmfaa.P
