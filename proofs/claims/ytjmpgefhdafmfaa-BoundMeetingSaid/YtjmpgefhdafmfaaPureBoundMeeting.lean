/- The pure statement of BoundMeeting. Conditions: none. -/
import Derived.Test.YtjmpgefhdafmfaaPx32
import Derived.Test.YtjmpgefhdafmfaaBase
import Derived.Test.YtjmpgefhdafmfaaClock
import Derived.Test.YtjmpgefhdafmfaaPureBoundGrowing
namespace Go.Proofs.Ytjmpgefhdafmfaa.P
open Go.RowKit Go.Proofs.YtjmpgefhdafmfaaW.PrintWords Go.Proofs.YtjmpgefhdafmfaaW.PrintLast Go.Proofs.YtjmpgefhdafmfaaW.PrintMore
set_option linter.unusedVariables false
set_option linter.unusedSimpArgs false
/-- Two spans of one clock that are true at two times meet to one that is true at the later one. -/
theorem M_true {off d x y l0 h0 l1 h1 : Int} (hv : CV off d) (hx : 0 ≤ x) (hxy : x ≤ y) (hy : y ≤ 10000000000000)
    (ha : VP l0 h0 (AT off d x)) (hb : VP l1 h1 (AT off d y)) (ta : l0 ≤ x - AT off d x ∧ x - AT off d x ≤ h0) (tb : l1 ≤ y - AT off d y ∧ y - AT off d y ≤ h1)
    (bl : -10000000000000 ≤ l0) (bh : h0 ≤ 10000000000000) (cl : -10000000000000 ≤ l1) (ch : h1 ≤ 10000000000000) :
    ∃ l h, M l0 h0 (AT off d x) l1 h1 (AT off d y) = (l, h, AT off d y, 0) ∧ l ≤ y - AT off d y ∧ y - AT off d y ≤ h := by
  have n1 := AT_near hv hx (by omega)
  have n2 := AT_near hv (show 0 ≤ y by omega) hy
  have n3 := AT_mono hv hxy
  have n4 := AT_grow hv hxy
  generalize AT off d x = p at *
  generalize AT off d y = q at *
  have hm : 0 ≤ MO (q - p) ∧ MO (q - p) ≤ 1000000000000 := by unfold MO; omega
  have hmx : mx p q = q := by unfold mx; split <;> omega
  have hd1 : dl p q = MO (q - p) := by unfold dl; rw [if_neg (by omega)]
  have hd2 : 0 ≤ dl q p ∧ dl q p ≤ 1000 := by unfold dl MO; split <;> omega
  refine ⟨mx (l0 - dl p q) (l1 - dl q p), mn (h0 + dl p q) (h1 + dl q p), ?_, ?_, ?_⟩
  · unfold M
    rw [if_pos ⟨ha, hb⟩, if_pos, if_neg, hmx]
    · unfold mx mn; rw [hd1]; split <;> split <;> omega
    · unfold VP at ha hb ⊢
      rw [hmx, hd1]
      omega
  · unfold mx; rw [hd1]; split <;> omega
  · unfold mn; rw [hd1]; split <;> omega
theorem BoundMeeting_pure : ∀ (a0_0 : Int) (a0_1 : Int) (a1 : Int) (a2 : Int) (a3 : Int) (a4 : Int) (a5 : Int) (a6 : Int), (Lit.int .i64 a0_0).wf = true → (Lit.int .i64 a0_1).wf = true → (Lit.int .u64 a1).wf = true → (Lit.int .u64 a2).wf = true → (Lit.int .u32 a3).wf = true → (Lit.int .u32 a4).wf = true → (Lit.int .u32 a5).wf = true → (Lit.int .u32 a6).wf = true → ∃ k, slotmeshlaw08_BoundMeeting.f k a0_0 a0_1 a1 a2 a3 a4 a5 a6 = some true := by
  intro off d t u less more less2 more2 w0 w1 w2 w3 w4 w5 w6 w7
  refine ⟨1 + 6, ?_⟩
  obtain ⟨x, hx, hx0, hx1⟩ := time_eq (wfu64 w2).1
  obtain ⟨y, hy, hy0, hy1⟩ := time_eq (wfu64 w3).1
  unfold slotmeshlaw08_BoundMeeting.f slotmeshlaw08_head.f
  rw [hx, hy]
  simp only [Option.bind_some]
  have hxy : 0 ≤ mn x y ∧ mn x y ≤ mx x y ∧ mx x y ≤ 10000000000000 := by unfold mn mx; split <;> split <;> omega
  generalize mn x y = s at *
  generalize mx x y = v at *
  rw [show 1 + 6 = 6 + 1 from rfl]
  have l1 := wfu32 w4
  have l2 := wfu32 w5
  have l3 := wfu32 w6
  have l4 := wfu32 w7
  rcases truth_eq off d s less more ⟨by omega, by omega⟩ l1 l2 with ⟨l, h, a, e⟩ | ⟨hv, hp, e⟩
  · rcases truth_eq off d v less2 more2 ⟨by omega, by omega⟩ l3 l4 with ⟨l', h', a', e'⟩ | ⟨hv', hp', e'⟩ <;> rw [e, e'] <;> rfl
  · rcases truth_eq off d v less2 more2 ⟨by omega, by omega⟩ l3 l4 with ⟨l', h', a', e'⟩ | ⟨hv', hp', e'⟩
    · rw [e, e']; rfl
    · have n1 := AT_near hv hxy.1 (by omega)
      have n2 := AT_near hv (show 0 ≤ v by omega) hxy.2.2
      obtain ⟨l, h, em, t1, t2⟩ := M_true hv hxy.1 hxy.2.1 hxy.2.2 hp hp' ⟨by omega, by omega⟩ ⟨by omega, by omega⟩ (by omega) (by omega) (by omega) (by omega)
      rw [e, e']
      simp only [Option.bind_some, if_true, slotmeshlaw08_BoundMeeting.j0, Bool.not_true, Bool.false_eq_true, if_false]
      rw [show 6 = 0 + 6 from rfl, Meet_eq, em]
      simp only [Option.bind_some, if_true]
      rw [True_eq _ _ _ _ _ (by omega), decide_eq_true ⟨rfl, t1, t2⟩]
      rfl
end Go.Proofs.Ytjmpgefhdafmfaa.P
