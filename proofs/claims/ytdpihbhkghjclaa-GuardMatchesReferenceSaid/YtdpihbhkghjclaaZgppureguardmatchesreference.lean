/- A claim's own texts, laid together by wip/zip.py without what the claim does not use. Conditions: none. -/
import Derived.Test.YtdpihbhkghjclaaZgpx49
import Derived.Test.YtdpihbhkghjclaaZgpx47
import Derived.Test.YtdpihbhkghjclaaZgpx32
section
/- The pure statement of GuardMatchesReference. Conditions: none. -/
namespace Go.Proofs.Ytdpihbhkghjclaa.P
open Go.RowKit Go.Proofs.YtdpihbhkghjclaaW.PrintWords Go.Proofs.YtdpihbhkghjclaaW.PrintLast Go.Proofs.YtdpihbhkghjclaaW.PrintMore
set_option linter.unusedVariables false
set_option linter.unusedSimpArgs false
theorem GuardMatchesReference_pure : ∀ (a0_0 : Bool) (a0_1 : Int) (a0_2 : Int) (a0_3 : Int) (a0_4 : Int) (a0_5 : Int) (a0_6 : Int) (a1_0 : Int) (a1_1 : Int) (a2 : Int) (a3 : Int) (a4_0 : Int) (a4_1 : Int), (Lit.int .i64 a0_1).wf = true → (Lit.int .i64 a0_2).wf = true → (Lit.int .i64 a0_3).wf = true → (Lit.int .i64 a0_4).wf = true → (Lit.int .i64 a0_5).wf = true → (Lit.int .i64 a0_6).wf = true → (Lit.int .i64 a1_0).wf = true → (Lit.int .i64 a1_1).wf = true → (Lit.int .i64 a2).wf = true → (Lit.int .i64 a3).wf = true → (Lit.int .i64 a4_0).wf = true → (Lit.int .i64 a4_1).wf = true → ∃ k, slotmeshlaw10_GuardMatchesReference.f k a0_0 a0_1 a0_2 a0_3 a0_4 a0_5 a0_6 a1_0 a1_1 a2 a3 a4_0 a4_1 = some true := by
  intro sy l h a ho so he off d asn start lo hi
  intros
  refine ⟨60, ?_⟩
  unfold slotmeshlaw10_GuardMatchesReference.f
  rw [ghead, show (60 : Nat) = 9 + 51 from rfl, Send_eq, Listen_eq, show (9 + 51 : Nat) = 13 + 47 from rfl, rSend_eq, rListen_eq]
  simp only [Option.bind_some, if_true]
  have hc : guard_Catches.f start lo hi = slotmeshref10_Catches.f start lo hi := by
    unfold guard_Catches.f slotmeshref10_Catches.f
    by_cases q : lo ≤ start <;> simp [q]
  obtain ⟨c, hc2⟩ : ∃ c, slotmeshref10_Catches.f start lo hi = some c := by
    unfold slotmeshref10_Catches.f
    split <;> exact ⟨_, rfl⟩
  rw [hc, hc2]
  simp
end Go.Proofs.Ytdpihbhkghjclaa.P
end
section
/- The call of GuardMatchesReference answers true, out of its pure statement. Conditions: none. -/
namespace Go.Proofs.Ytdpihbhkghjclaa.P
open Go.RowKit
theorem GuardMatchesReference_walk (a0_0 : Bool) (a0_1 : Int) (a0_2 : Int) (a0_3 : Int) (a0_4 : Int) (a0_5 : Int) (a0_6 : Int) (a1_0 : Int) (a1_1 : Int) (a2 : Int) (a3 : Int) (a4_0 : Int) (a4_1 : Int) (w : World) (w0_1 : (Lit.int .i64 a0_1).wf = true) (w0_2 : (Lit.int .i64 a0_2).wf = true) (w0_3 : (Lit.int .i64 a0_3).wf = true) (w0_4 : (Lit.int .i64 a0_4).wf = true) (w0_5 : (Lit.int .i64 a0_5).wf = true) (w0_6 : (Lit.int .i64 a0_6).wf = true) (w1_0 : (Lit.int .i64 a1_0).wf = true) (w1_1 : (Lit.int .i64 a1_1).wf = true) (w2 : (Lit.int .i64 a2).wf = true) (w3 : (Lit.int .i64 a3).wf = true) (w4_0 : (Lit.int .i64 a4_0).wf = true) (w4_1 : (Lit.int .i64 a4_1).wf = true) :
    Calls Try.prog 5 #[.agg #[.bool a0_0, .int .i64 a0_1, .int .i64 a0_2, .int .i64 a0_3, .int .i64 a0_4, .int .i64 a0_5, .int .i64 a0_6], .agg #[.int .i64 a1_0, .int .i64 a1_1], .int .i64 a2, .int .i64 a3, .agg #[.int .i64 a4_0, .int .i64 a4_1]] w fun e w' => e = .returned (.bool true) ∧ Below w.heap.size w w' := by
  obtain ⟨k, h⟩ := GuardMatchesReference_pure a0_0 a0_1 a0_2 a0_3 a0_4 a0_5 a0_6 a1_0 a1_1 a2 a3 a4_0 a4_1 w0_1 w0_2 w0_3 w0_4 w0_5 w0_6 w1_0 w1_1 w2 w3 w4_0 w4_1
  refine (slotmeshlaw10_GuardMatchesReference.calls k a0_0 a0_1 a0_2 a0_3 a0_4 a0_5 a0_6 a1_0 a1_1 a2 a3 a4_0 a4_1 true w h).mono ?_
  rintro e w' ⟨rfl, hd⟩
  exact ⟨rfl, hd⟩
end Go.Proofs.Ytdpihbhkghjclaa.P
end
