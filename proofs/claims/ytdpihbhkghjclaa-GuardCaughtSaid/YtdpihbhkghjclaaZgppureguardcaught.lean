/- A claim's own texts, laid together by wip/zip.py without what the claim does not use. Conditions: none. -/
import Derived.Test.YtdpihbhkghjclaaZgpx53
import Derived.Test.YtdpihbhkghjclaaZgpguardlaws
import Derived.Test.YtdpihbhkghjclaaZgpx1
import Derived.Test.YtdpihbhkghjclaaZgpx32
section
/- The pure statement of GuardCaught. Conditions: none. -/
namespace Go.Proofs.Ytdpihbhkghjclaa.P
open Go.RowKit Go.Proofs.YtdpihbhkghjclaaW.PrintWords Go.Proofs.YtdpihbhkghjclaaW.PrintLast Go.Proofs.YtdpihbhkghjclaaW.PrintMore
set_option linter.unusedVariables false
set_option linter.unusedSimpArgs false
theorem GuardCaught_pure : ∀ (a0_0 : Bool) (a0_1 : Int) (a0_2 : Int) (a0_3 : Int) (a0_4 : Int) (a0_5 : Int) (a0_6 : Int) (a1_0 : Int) (a1_1 : Int) (a2 : Int) (a3_0 : Bool) (a3_1 : Int) (a3_2 : Int) (a3_3 : Int) (a3_4 : Int) (a3_5 : Int) (a3_6 : Int) (a4_0 : Int) (a4_1 : Int) (a5 : Int) (a6 : Int), (Lit.int .i64 a0_1).wf = true → (Lit.int .i64 a0_2).wf = true → (Lit.int .i64 a0_3).wf = true → (Lit.int .i64 a0_4).wf = true → (Lit.int .i64 a0_5).wf = true → (Lit.int .i64 a0_6).wf = true → (Lit.int .i64 a1_0).wf = true → (Lit.int .i64 a1_1).wf = true → (Lit.int .i64 a2).wf = true → (Lit.int .i64 a3_1).wf = true → (Lit.int .i64 a3_2).wf = true → (Lit.int .i64 a3_3).wf = true → (Lit.int .i64 a3_4).wf = true → (Lit.int .i64 a3_5).wf = true → (Lit.int .i64 a3_6).wf = true → (Lit.int .i64 a4_0).wf = true → (Lit.int .i64 a4_1).wf = true → (Lit.int .i64 a5).wf = true → (Lit.int .i64 a6).wf = true → ∃ k, slotmeshlaw10_GuardCaught.f k a0_0 a0_1 a0_2 a0_3 a0_4 a0_5 a0_6 a1_0 a1_1 a2 a3_0 a3_1 a3_2 a3_3 a3_4 a3_5 a3_6 a4_0 a4_1 a5 a6 = some true := by
  intro sy l h a ho so he off d t sy' l' h' a' ho' so' he' off' d' u asn
  intros
  refine ⟨60, ?_⟩
  unfold slotmeshlaw10_GuardCaught.f
  obtain ⟨b, hb, hi⟩ := isTrue_eq 59 sy l h a ho so he off d t
  obtain ⟨b', hb', hi'⟩ := isTrue_eq 59 sy' l' h' a' ho' so' he' off' d' u
  rw [ghead, show (60 : Nat) = 59 + 1 from rfl, hb, hb']
  simp only [Option.bind_some]
  have stop : ∀ q, q = true → slotmeshlaw10_GuardCaught.j0 (59 + 1) asn true q sy l h a ho so he off d sy' l' h' a' ho' so' he' off' d' = some true := by
    intro q e; subst e; simp [slotmeshlaw10_GuardCaught.j0]
  cases b
  · rw [if_neg (by decide)]; exact stop _ rfl
  rw [if_pos rfl]
  cases b'
  · exact stop _ rfl
  obtain ⟨i1, i2, i3, i4, i5⟩ := hi rfl
  obtain ⟨k1, k2, k3, k4, k5⟩ := hi' rfl
  simp only [slotmeshlaw10_GuardCaught.j0, Bool.not_true, Bool.false_eq_true, if_false]
  rw [show (59 : Nat) = 8 + 51 from rfl, Send_eq, Send_eq, Listen_eq, Listen_eq]
  simp only [Option.bind_some]
  rw [show (8 + 51 : Nat) = 58 + 1 from rfl]
  by_cases e : (SL sy l h a ho so he off d asn).2.2 = 0
  · by_cases e' : (SL sy' l' h' a' ho' so' he' off' d' asn).2.2 = 0
    · obtain ⟨e1, e2, e3, e4, e5, e6, e7⟩ := SL_ok e
      obtain ⟨g1, g2, g3, g4, g5, g6, g7⟩ := SL_ok e'
      have o := on_time e3 i2 i4 e2 i5 e5 e6
      have o' := on_time g3 k2 k4 g2 k5 g5 g6
      have r := BO_range (sy := true) (l := l) (h := h) (a := a) (ho := ho) (so := so) (he := he) (now := OW l h ho asn)
      have r' := BO_range (sy := true) (l := l') (h := h') (a := a') (ho := ho') (so := so') (he := he') (now := OW l' h' ho' asn)
      rw [if_pos e, if_pos e, if_pos e', if_pos e', e7, g7]
      generalize (BO true l h a ho so he (OW l h ho asn)).1 = bb at *
      generalize (BO true l' h' a' ho' so' he' (OW l' h' ho' asn)).1 = bb' at *
      generalize FT off d (OW l h ho asn) - asn * 10000 = n at *
      generalize FT off' d' (OW l' h' ho' asn) - asn * 10000 = n' at *
      simp only [slotmeshlaw10_GuardCaught.j1, guard_Catches.f, bne_self_eq_false, Bool.false_eq_true, if_false, if_true, ge_iff_le]
      rw [if_pos (show n' - (2004 + bb') ≤ n by omega), decide_eq_true (show n ≤ n' + (2004 + bb') by omega), if_pos (show n - (2004 + bb) ≤ n' by omega), decide_eq_true (show n' ≤ n + (2004 + bb) by omega)]
      rfl
    · rw [if_pos e, if_pos e, if_neg e', if_neg e']
      simp [slotmeshlaw10_GuardCaught.j1, e']
  · by_cases e' : (SL sy' l' h' a' ho' so' he' off' d' asn).2.2 = 0
    · rw [if_neg e, if_neg e, if_pos e', if_pos e']
      simp [slotmeshlaw10_GuardCaught.j1, e]
    · rw [if_neg e, if_neg e, if_neg e', if_neg e']
      simp [slotmeshlaw10_GuardCaught.j1, e]
end Go.Proofs.Ytdpihbhkghjclaa.P
end
section
/- The call of GuardCaught answers true, out of its pure statement. Conditions: none. -/
namespace Go.Proofs.Ytdpihbhkghjclaa.P
open Go.RowKit
theorem GuardCaught_walk (a0_0 : Bool) (a0_1 : Int) (a0_2 : Int) (a0_3 : Int) (a0_4 : Int) (a0_5 : Int) (a0_6 : Int) (a1_0 : Int) (a1_1 : Int) (a2 : Int) (a3_0 : Bool) (a3_1 : Int) (a3_2 : Int) (a3_3 : Int) (a3_4 : Int) (a3_5 : Int) (a3_6 : Int) (a4_0 : Int) (a4_1 : Int) (a5 : Int) (a6 : Int) (w : World) (w0_1 : (Lit.int .i64 a0_1).wf = true) (w0_2 : (Lit.int .i64 a0_2).wf = true) (w0_3 : (Lit.int .i64 a0_3).wf = true) (w0_4 : (Lit.int .i64 a0_4).wf = true) (w0_5 : (Lit.int .i64 a0_5).wf = true) (w0_6 : (Lit.int .i64 a0_6).wf = true) (w1_0 : (Lit.int .i64 a1_0).wf = true) (w1_1 : (Lit.int .i64 a1_1).wf = true) (w2 : (Lit.int .i64 a2).wf = true) (w3_1 : (Lit.int .i64 a3_1).wf = true) (w3_2 : (Lit.int .i64 a3_2).wf = true) (w3_3 : (Lit.int .i64 a3_3).wf = true) (w3_4 : (Lit.int .i64 a3_4).wf = true) (w3_5 : (Lit.int .i64 a3_5).wf = true) (w3_6 : (Lit.int .i64 a3_6).wf = true) (w4_0 : (Lit.int .i64 a4_0).wf = true) (w4_1 : (Lit.int .i64 a4_1).wf = true) (w5 : (Lit.int .i64 a5).wf = true) (w6 : (Lit.int .i64 a6).wf = true) :
    Calls Try.prog 7 #[.agg #[.bool a0_0, .int .i64 a0_1, .int .i64 a0_2, .int .i64 a0_3, .int .i64 a0_4, .int .i64 a0_5, .int .i64 a0_6], .agg #[.int .i64 a1_0, .int .i64 a1_1], .int .i64 a2, .agg #[.bool a3_0, .int .i64 a3_1, .int .i64 a3_2, .int .i64 a3_3, .int .i64 a3_4, .int .i64 a3_5, .int .i64 a3_6], .agg #[.int .i64 a4_0, .int .i64 a4_1], .int .i64 a5, .int .i64 a6] w fun e w' => e = .returned (.bool true) ∧ Below w.heap.size w w' := by
  obtain ⟨k, h⟩ := GuardCaught_pure a0_0 a0_1 a0_2 a0_3 a0_4 a0_5 a0_6 a1_0 a1_1 a2 a3_0 a3_1 a3_2 a3_3 a3_4 a3_5 a3_6 a4_0 a4_1 a5 a6 w0_1 w0_2 w0_3 w0_4 w0_5 w0_6 w1_0 w1_1 w2 w3_1 w3_2 w3_3 w3_4 w3_5 w3_6 w4_0 w4_1 w5 w6
  refine (slotmeshlaw10_GuardCaught.calls k a0_0 a0_1 a0_2 a0_3 a0_4 a0_5 a0_6 a1_0 a1_1 a2 a3_0 a3_1 a3_2 a3_3 a3_4 a3_5 a3_6 a4_0 a4_1 a5 a6 true w h).mono ?_
  rintro e w' ⟨rfl, hd⟩
  exact ⟨rfl, hd⟩
end Go.Proofs.Ytdpihbhkghjclaa.P
end
