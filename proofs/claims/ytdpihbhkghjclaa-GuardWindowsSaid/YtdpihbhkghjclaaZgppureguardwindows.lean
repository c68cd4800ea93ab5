/- A claim's own texts, laid together by wip/zip.py without what the claim does not use. Conditions: none. -/
import Derived.Test.YtdpihbhkghjclaaZgpx55
import Derived.Test.YtdpihbhkghjclaaZgpguardlaws
import Derived.Test.YtdpihbhkghjclaaZgpx33
import Derived.Test.YtdpihbhkghjclaaZgpx32
section
/- The pure statement of GuardWindows. Conditions: none. -/
namespace Go.Proofs.Ytdpihbhkghjclaa.P
open Go.RowKit Go.Proofs.YtdpihbhkghjclaaW.PrintWords Go.Proofs.YtdpihbhkghjclaaW.PrintLast Go.Proofs.YtdpihbhkghjclaaW.PrintMore
set_option linter.unusedVariables false
set_option linter.unusedSimpArgs false
theorem GuardWindows_pure : ∀ (a0_0 : Bool) (a0_1 : Int) (a0_2 : Int) (a0_3 : Int) (a0_4 : Int) (a0_5 : Int) (a0_6 : Int) (a1_0 : Int) (a1_1 : Int) (a2 : Int) (a3 : Int), (Lit.int .i64 a0_1).wf = true → (Lit.int .i64 a0_2).wf = true → (Lit.int .i64 a0_3).wf = true → (Lit.int .i64 a0_4).wf = true → (Lit.int .i64 a0_5).wf = true → (Lit.int .i64 a0_6).wf = true → (Lit.int .i64 a1_0).wf = true → (Lit.int .i64 a1_1).wf = true → (Lit.int .i64 a2).wf = true → (Lit.int .i64 a3).wf = true → ∃ k, slotmeshlaw10_GuardWindows.f k a0_0 a0_1 a0_2 a0_3 a0_4 a0_5 a0_6 a1_0 a1_1 a2 a3 = some true := by
  intro sy l h a ho so he off d asn more
  intros _ _ _ _ _ _ _ _ wa wm
  have ba := wf64 wa
  have bm := wf64 wm
  refine ⟨60, ?_⟩
  unfold slotmeshlaw10_GuardWindows.f
  rw [ghead, show (60 : Nat) = 9 + 51 from rfl, Listen_eq, Send_eq, Listen_eq]
  simp only [Option.bind_some]
  by_cases e : (SL sy l h a ho so he off d asn).2.2 = 0
  · obtain ⟨e1, e2, e3, e4, e5, e6, e7⟩ := SL_ok e
    rw [if_pos e, if_pos e]
    simp only [if_true]
    rw [Own_eq _ _ _ _ _ _ _ _ e3 (by omega)]
    simp only [Option.bind_some]
    rw [show (9 + 51 : Nat) = 54 + 6 from rfl, Bound_eq]
    subst e4
    simp only [Option.bind_some]
    have r := BO_range (sy := true) (l := l) (h := h) (a := a) (ho := ho) (so := so) (he := he) (now := OW l h ho asn)
    have f1 := (FT_spec e1 (OW l h ho asn)).1.1
    rw [e5, e7]
    generalize hbb : (BO true l h a ho so he (OW l h ho asn)).1 = bb at *
    obtain ⟨n, hnn⟩ : ∃ n, FT off d (OW l h ho asn) - asn * 10000 = n := ⟨_, rfl⟩
    rw [hnn]
    dsimp only
    have hn : -20000000000000 ≤ n ∧ n ≤ 20000000000000 := by omega
    simp only [if_true]
    rw [w64 (x := n - (2004 + bb) + (n + (2004 + bb))) (by omega), w64 (x := 2 * n) (by omega), if_pos (show n - (2004 + bb) + (n + (2004 + bb)) = 2 * n by omega), w64 (x := n + (2004 + bb) - (n - (2004 + bb))) (by omega), w64 (x := 2 * bb) (by omega), w64 (x := 4008 + 2 * bb) (by omega)]
    have hw : n + (2004 + bb) - (n - (2004 + bb)) = 4008 + 2 * bb := by omega
    rw [hw]
    by_cases m1 : more < 0
    · rw [if_pos m1]; simp
    rw [if_neg m1, w64 (x := 1000000000 - asn) (by omega)]
    by_cases m2 : more > 1000000000 - asn
    · rw [if_pos m2]; simp
    rw [if_neg m2, w64 (x := asn + more) (by omega), if_pos rfl]
    by_cases e' : (SL true l h a ho so he off d (asn + more)).2.2 = 0
    · obtain ⟨g1, g2, g3, g4, g5, g6, g7⟩ := SL_ok e'
      have hb := BO_earlier (now := OW l h ho asn) (later := OW l h ho (asn + more)) e3 (fun c => (BO_ok e3 c e5).2.1.1) (OW_le (by omega)) g5
      rw [hbb] at hb
      have r' := BO_range (sy := true) (l := l) (h := h) (a := a) (ho := ho) (so := so) (he := he) (now := OW l h ho (asn + more))
      have f2 := (FT_spec e1 (OW l h ho (asn + more))).1.1
      rw [if_pos e', g7]
      generalize (BO true l h a ho so he (OW l h ho (asn + more))).1 = b2 at *
      generalize FT off d (OW l h ho (asn + more)) - (asn + more) * 10000 = n2 at *
      dsimp only
      rw [if_pos rfl, w64 (x := n2 + (2004 + b2) - (n2 - (2004 + b2))) (by omega), decide_eq_true (by omega)]
    · rw [if_neg e']
      simp [e']
  · rw [if_neg e]
    simp [e]
end Go.Proofs.Ytdpihbhkghjclaa.P
end
section
/- The call of GuardWindows answers true, out of its pure statement. Conditions: none. -/
namespace Go.Proofs.Ytdpihbhkghjclaa.P
open Go.RowKit
theorem GuardWindows_walk (a0_0 : Bool) (a0_1 : Int) (a0_2 : Int) (a0_3 : Int) (a0_4 : Int) (a0_5 : Int) (a0_6 : Int) (a1_0 : Int) (a1_1 : Int) (a2 : Int) (a3 : Int) (w : World) (w0_1 : (Lit.int .i64 a0_1).wf = true) (w0_2 : (Lit.int .i64 a0_2).wf = true) (w0_3 : (Lit.int .i64 a0_3).wf = true) (w0_4 : (Lit.int .i64 a0_4).wf = true) (w0_5 : (Lit.int .i64 a0_5).wf = true) (w0_6 : (Lit.int .i64 a0_6).wf = true) (w1_0 : (Lit.int .i64 a1_0).wf = true) (w1_1 : (Lit.int .i64 a1_1).wf = true) (w2 : (Lit.int .i64 a2).wf = true) (w3 : (Lit.int .i64 a3).wf = true) :
    Calls Try.prog 9 #[.agg #[.bool a0_0, .int .i64 a0_1, .int .i64 a0_2, .int .i64 a0_3, .int .i64 a0_4, .int .i64 a0_5, .int .i64 a0_6], .agg #[.int .i64 a1_0, .int .i64 a1_1], .int .i64 a2, .int .i64 a3] w fun e w' => e = .returned (.bool true) ∧ Below w.heap.size w w' := by
  obtain ⟨k, h⟩ := GuardWindows_pure a0_0 a0_1 a0_2 a0_3 a0_4 a0_5 a0_6 a1_0 a1_1 a2 a3 w0_1 w0_2 w0_3 w0_4 w0_5 w0_6 w1_0 w1_1 w2 w3
  refine (slotmeshlaw10_GuardWindows.calls k a0_0 a0_1 a0_2 a0_3 a0_4 a0_5 a0_6 a1_0 a1_1 a2 a3 true w h).mono ?_
  rintro e w' ⟨rfl, hd⟩
  exact ⟨rfl, hd⟩
end Go.Proofs.Ytdpihbhkghjclaa.P
end
