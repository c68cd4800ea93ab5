/- The pure statement of BoundNarrower. Conditions: none. -/
import Derived.Test.YtjmpgefhdafmfaaPx24
import Derived.Test.YtjmpgefhdafmfaaBase
namespace Go.Proofs.Ytjmpgefhdafmfaa.P
open Go.RowKit Go.Proofs.YtjmpgefhdafmfaaW.PrintWords Go.Proofs.YtjmpgefhdafmfaaW.PrintLast Go.Proofs.YtjmpgefhdafmfaaW.PrintMore
set_option linter.unusedVariables false
set_option linter.unusedSimpArgs false
theorem wf16 {a : Int} (h : (Lit.int .u16 a).wf = true) : 0 ≤ a ∧ a ≤ 65535 := by
  simpa [Lit.wf, IntKind.min, IntKind.max, IntKind.bits, IntKind.signed] using h
theorem G_cases (l h a now : Int) : (G l h a now = (l - MO (now - a), h + MO (now - a), now, 0) ∧ VP l h a ∧ a ≤ now ∧ now ≤ 20000000000000 ∧ VP (l - MO (now - a)) (h + MO (now - a)) now) ∨ (G l h a now).2.2.2 ≠ 0 := by
  unfold G
  split
  · rename_i h1
    split
    · rename_i h2; exact .inl ⟨rfl, h1.1, h1.2.1, h1.2.2, h2⟩
    · exact .inr (by simp)
  · exact .inr (by simp)
/-- What a wider span meets to. -/
theorem M_wide (l h a p q b0 b1 b2 : Int) (hp : 0 ≤ p) (hq : 0 ≤ q) (hb : -9223372036854775808 ≤ l - p) :
    ((M l h a b0 b1 b2).2.2.2 = 0 ∧ (M (l - p) (h + q) a b0 b1 b2).2.2.2 = 0 ∧ (M l h a b0 b1 b2).2.2.1 = (M (l - p) (h + q) a b0 b1 b2).2.2.1 ∧ (M l h a b0 b1 b2).1 ≥ (M (l - p) (h + q) a b0 b1 b2).1 ∧ (M l h a b0 b1 b2).2.1 ≤ (M (l - p) (h + q) a b0 b1 b2).2.1)
    ∨ (M l h a b0 b1 b2).2.2.2 ≠ 0 ∨ ((M l h a b0 b1 b2).2.2.2 = 0 ∧ ((M (l - p) (h + q) a b0 b1 b2).2.2.2 = 1 ∨ (M (l - p) (h + q) a b0 b1 b2).2.2.2 = 3)) := by
  by_cases e1 : VP l h a ∧ VP b0 b1 b2
  · by_cases e2 : VP (l - dl a b2) (h + dl a b2) (mx a b2) ∧ VP (b0 - dl b2 a) (b1 + dl b2 a) (mx a b2)
    · by_cases e3 : mx (l - dl a b2) (b0 - dl b2 a) > mn (h + dl a b2) (b1 + dl b2 a)
      · right; left
        unfold M; rw [if_pos e1, if_pos e2, if_pos e3]; decide
      · have m1 : M l h a b0 b1 b2 = (mx (l - dl a b2) (b0 - dl b2 a), mn (h + dl a b2) (b1 + dl b2 a), mx a b2, 0) := by unfold M; rw [if_pos e1, if_pos e2, if_neg e3]
        by_cases f1 : VP (l - p) (h + q) a
        · by_cases f2 : VP (l - p - dl a b2) (h + q + dl a b2) (mx a b2)
          · have f3 : ¬ mx (l - p - dl a b2) (b0 - dl b2 a) > mn (h + q + dl a b2) (b1 + dl b2 a) := by revert e3; unfold mx mn; split <;> split <;> split <;> split <;> omega
            have m2 : M (l - p) (h + q) a b0 b1 b2 = (mx (l - p - dl a b2) (b0 - dl b2 a), mn (h + q + dl a b2) (b1 + dl b2 a), mx a b2, 0) := by unfold M; rw [if_pos ⟨f1, e1.2⟩, if_pos ⟨f2, e2.2⟩, if_neg f3]
            left
            rw [m1, m2]
            refine ⟨rfl, rfl, rfl, ?_, ?_⟩
            · show mx _ _ ≥ mx _ _; unfold mx; split <;> split <;> omega
            · show mn _ _ ≤ mn _ _; unfold mn; split <;> split <;> omega
          · have m2 : M (l - p) (h + q) a b0 b1 b2 = (0, 0, 0, 3) := by unfold M; rw [if_pos ⟨f1, e1.2⟩, if_neg (fun hh => f2 hh.1)]
            right; right
            rw [m1, m2]; exact ⟨rfl, .inr rfl⟩
        · have m2 : M (l - p) (h + q) a b0 b1 b2 = (0, 0, 0, 1) := by unfold M; rw [if_neg (fun hh => f1 hh.1)]
          right; right
          rw [m1, m2]; exact ⟨rfl, .inl rfl⟩
    · right; left
      unfold M; rw [if_pos e1, if_neg e2]; decide
  · right; left
    unfold M; rw [if_neg e1]; decide
theorem M_bad (l h a b0 b1 b2 : Int) (hv : ¬ VP l h a) : M l h a b0 b1 b2 = (0, 0, 0, 1) := by unfold M; rw [if_neg (fun hh => hv hh.1)]
theorem BoundNarrower_pure : ∀ (a0_0 : Int) (a0_1 : Int) (a0_2 : Int) (a1 : Int) (a2 : Int) (a3 : Int) (a4_0 : Int) (a4_1 : Int) (a4_2 : Int), (Lit.int .i64 a0_0).wf = true → (Lit.int .i64 a0_1).wf = true → (Lit.int .i64 a0_2).wf = true → (Lit.int .u16 a1).wf = true → (Lit.int .u16 a2).wf = true → (Lit.int .i64 a3).wf = true → (Lit.int .i64 a4_0).wf = true → (Lit.int .i64 a4_1).wf = true → (Lit.int .i64 a4_2).wf = true → ∃ k, slotmeshlaw08_BoundNarrower.f k a0_0 a0_1 a0_2 a1 a2 a3 a4_0 a4_1 a4_2 = some true := by
  intro l h a p q now b0 b1 b2 w0 w1 w2 w3 w4 w5 w6 w7 w8
  refine ⟨1 + 6, ?_⟩
  have hl := wf64 w0
  have hh := wf64 w1
  have hp := wf16 w3
  have hq := wf16 w4
  -- the wide span: as numbers where the narrow one is valid; else nothing is asked of it
  obtain ⟨wl, hwl⟩ : ∃ wl, wrap64 (l - wrap64 p) = wl := ⟨_, rfl⟩
  obtain ⟨wh, hwh⟩ : ∃ wh, wrap64 (h + wrap64 q) = wh := ⟨_, rfl⟩
  have hv : VP l h a → wl = l - p ∧ wh = h + q := by
    intro hv; unfold VP at hv
    rw [← hwl, ← hwh, w64 (x := p) (by omega), w64 (x := q) (by omega)]
    exact ⟨w64 (by omega), w64 (by omega)⟩
  -- what the rest of the law answers
  have fin : ∀ t, slotmeshlaw08_BoundNarrower.j0 (1 + 6) true t l h a b0 b1 b2 wl wh a = some true ∨ t = true := by
    intro t
    cases t with
    | true => exact .inr rfl
    | false =>
      left
      rw [show 1 + 6 = 6 + 1 from rfl]
      simp only [slotmeshlaw08_BoundNarrower.j0, Bool.false_eq_true, if_false]
      rw [show 6 = 0 + 6 from rfl, Meet_eq, Meet_eq]
      simp only [Option.bind_some]
      by_cases h1 : VP l h a
      · obtain ⟨e1, e2⟩ := hv h1
        subst e1; subst e2
        unfold VP at h1
        rcases M_wide l h a p q b0 b1 b2 (by omega) (by omega) (by omega) with ⟨g1, g2, g3, g4, g5⟩ | g1 | ⟨g1, g2⟩
        · rw [if_pos g1, if_pos g2]
          simp only [if_true, slotmeshlaw08_inside.f]
          rw [if_pos g3, if_pos g4, decide_eq_true g5]
          rfl
        · rw [if_neg g1]; rfl
        · rcases g2 with g2 | g2
          · rw [if_pos g1, g2]; rfl
          · rw [if_pos g1, g2]; rfl
      · rw [M_bad l h a b0 b1 b2 h1]; rfl
  unfold slotmeshlaw08_BoundNarrower.f slotmeshlaw08_head.f
  rw [Grow_eq, hwl, hwh, Grow_eq]
  simp only [Option.bind_some]
  rcases G_cases l h a now with ⟨e1, h1, h2, h3, h4⟩ | e1
  · obtain ⟨e2, e3⟩ := hv h1
    rw [e1]
    simp only [if_true]
    rcases G_cases wl wh a now with ⟨f1, f2, f3, f4, f5⟩ | f1
    · rw [f1]
      simp only [if_true, slotmeshlaw08_inside.f]
      rw [if_pos (by omega), decide_eq_true (by omega)]
      simp only [Option.bind_some, Bool.not_true]
      exact (fin false).resolve_right (by decide)
    · rw [if_neg f1]
      exact (fin false).resolve_right (by decide)
  · rw [if_neg e1]
    exact (fin false).resolve_right (by decide)
end Go.Proofs.Ytjmpgefhdafmfaa.P
