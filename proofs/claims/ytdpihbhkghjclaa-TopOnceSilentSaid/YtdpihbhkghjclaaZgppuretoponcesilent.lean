/- A claim's own texts, laid together by wip/zip.py without what the claim does not use. Conditions: none. -/
import Derived.Test.YtdpihbhkghjclaaZgpx60
import Derived.Test.YtdpihbhkghjclaaZgpguardlaws
import Derived.Test.YtdpihbhkghjclaaZgpx33
import Derived.Test.YtdpihbhkghjclaaZgpx59
section
/- The pure statement of TopOnceSilent. Conditions: none. -/
namespace Go.Proofs.Ytdpihbhkghjclaa.P
open Go.RowKit Go.Proofs.YtdpihbhkghjclaaW.PrintWords Go.Proofs.YtdpihbhkghjclaaW.PrintLast Go.Proofs.YtdpihbhkghjclaaW.PrintMore
set_option linter.unusedVariables false
set_option linter.unusedSimpArgs false
theorem TopOnceSilent_pure : ∀ (a0_0 : Bool) (a0_1 : Int) (a0_2 : Int) (a0_3 : Int) (a0_4 : Int) (a0_5 : Int) (a0_6 : Int) (a1_0 : Int) (a1_1 : Int) (a2 : Int) (a3 : Int), (Lit.int .i64 a0_1).wf = true → (Lit.int .i64 a0_2).wf = true → (Lit.int .i64 a0_3).wf = true → (Lit.int .i64 a0_4).wf = true → (Lit.int .i64 a0_5).wf = true → (Lit.int .i64 a0_6).wf = true → (Lit.int .i64 a1_0).wf = true → (Lit.int .i64 a1_1).wf = true → (Lit.int .i64 a2).wf = true → (Lit.int .i64 a3).wf = true → ∃ k, slotmeshtop_TopOnceSilent.f k a0_0 a0_1 a0_2 a0_3 a0_4 a0_5 a0_6 a1_0 a1_1 a2 a3 = some true := by
  intro sy l h a ho so he off d asn more
  intros _ _ _ _ _ _ _ _ wa wm
  have ba := wf64 wa
  have bm := wf64 wm
  refine ⟨60, ?_⟩
  unfold slotmeshtop_TopOnceSilent.f
  rw [wtime]
  simp only [Option.bind_some]
  have stop : ∀ q, q = true → slotmeshtop_TopOnceSilent.j0 60 asn more true q sy l h a ho so he off d = some true := by
    intro q e; subst e; rw [show (60 : Nat) = 59 + 1 from rfl]; simp [slotmeshtop_TopOnceSilent.j0]
  by_cases c1 : asn < 0
  · rw [if_pos c1]; exact stop _ rfl
  rw [if_neg c1]
  by_cases c2 : more < 0
  · rw [if_pos c2]; exact stop _ rfl
  rw [if_neg c2]
  by_cases c3 : asn ≥ 1000000000
  · rw [if_pos c3]; exact stop _ rfl
  rw [if_neg c3, w64 (x := 1000000000 - asn) (by omega)]
  by_cases c4 : more ≥ 1000000000 - asn
  · rw [decide_eq_true c4]; exact stop _ rfl
  rw [decide_eq_false c4, show (60 : Nat) = 59 + 1 from rfl]
  simp only [slotmeshtop_TopOnceSilent.j0, Bool.false_eq_true, if_false]
  rw [show (59 : Nat) = 8 + 51 from rfl, w64 (x := asn + more) (by omega), Send_eq, Send_eq]
  obtain ⟨ow, how⟩ := Own_some sy l h a ho so he asn
  rw [how]
  simp only [Option.bind_some, if_true]
  by_cases f : (SL sy l h a ho so he off d (asn + more)).2.2 = 0
  · obtain ⟨g1, g2, g3, g4, g5, g6, g7⟩ := SL_ok f
    have hle := OW_le (l := l) (h := h) (ho := ho) (show asn ≤ asn + more by omega)
    have key : ¬ (ho > 0 ∧ OW l h ho asn < a) → (SL sy l h a ho so he off d asn).2.2 = 0 := by
      intro hk
      have hb := BO_earlier (now := OW l h ho asn) (later := OW l h ho (asn + more)) g3 (fun c => by have := (SV_vp g3 c).1; omega) hle g5
      have hf := FT_mono g1 hle
      subst g4
      unfold SL
      rw [if_pos ⟨g1, ⟨by omega, by omega⟩, g3⟩, if_pos rfl, if_pos hb.1, if_neg (by omega)]
    rw [Own_eq _ _ _ _ _ _ _ _ g3 (by omega)] at how
    have how' : OW l h ho asn = ow := Option.some.inj how
    rw [how'] at key
    have no16 : ho > 0 → ow < a → ¬ (SL sy l h a ho so he off d asn).2.2 = 16 := by
      intro h1 h2
      subst g4
      have hG : (BO true l h a ho so he (OW l h ho asn)) = (0, 1) := by
        unfold BO
        have g : G l h a (OW l h ho asn) = (0, 0, 0, 1) := by unfold G; rw [if_neg (fun q => by omega)]
        rw [if_pos g3, if_pos rfl, if_neg (by omega), g]
        rfl
      unfold SL
      rw [if_pos ⟨g1, ⟨by omega, by omega⟩, g3⟩, if_pos rfl, hG]
      simp
    rw [if_pos f]
    by_cases k1 : ho > 0
    · by_cases k2 : ow < a
      · have n16 := no16 k1 k2
        by_cases e : (SL sy l h a ho so he off d asn).2.2 = 0
        · rw [if_pos e]; simp [k1, k2]
        · rw [if_neg e]; simp [k1, k2, n16]
      · have e := key (fun q => k2 q.2)
        rw [if_pos e]; simp [k1, k2]
    · have e := key (fun q => k1 q.1)
      rw [if_pos e]; simp [k1]
  · rw [if_neg f]
    by_cases e : (SL sy l h a ho so he off d asn).2.2 = 0
    · rw [if_pos e]
      by_cases k1 : ho > 0 <;> simp [k1, f]
    · rw [if_neg e]
      by_cases e2 : (SL sy l h a ho so he off d asn).2.2 = 16
      · by_cases k1 : ho > 0 <;> simp [k1, e2, f]
      · by_cases k1 : ho > 0 <;> simp [k1, e2, f]
end Go.Proofs.Ytdpihbhkghjclaa.P
end
section
/- The call of TopOnceSilent answers true, out of its pure statement. Conditions: none. -/
namespace Go.Proofs.Ytdpihbhkghjclaa.P
open Go.RowKit
theorem TopOnceSilent_walk (a0_0 : Bool) (a0_1 : Int) (a0_2 : Int) (a0_3 : Int) (a0_4 : Int) (a0_5 : Int) (a0_6 : Int) (a1_0 : Int) (a1_1 : Int) (a2 : Int) (a3 : Int) (w : World) (w0_1 : (Lit.int .i64 a0_1).wf = true) (w0_2 : (Lit.int .i64 a0_2).wf = true) (w0_3 : (Lit.int .i64 a0_3).wf = true) (w0_4 : (Lit.int .i64 a0_4).wf = true) (w0_5 : (Lit.int .i64 a0_5).wf = true) (w0_6 : (Lit.int .i64 a0_6).wf = true) (w1_0 : (Lit.int .i64 a1_0).wf = true) (w1_1 : (Lit.int .i64 a1_1).wf = true) (w2 : (Lit.int .i64 a2).wf = true) (w3 : (Lit.int .i64 a3).wf = true) :
    Calls Try.prog 3 #[.agg #[.bool a0_0, .int .i64 a0_1, .int .i64 a0_2, .int .i64 a0_3, .int .i64 a0_4, .int .i64 a0_5, .int .i64 a0_6], .agg #[.int .i64 a1_0, .int .i64 a1_1], .int .i64 a2, .int .i64 a3] w fun e w' => e = .returned (.bool true) ∧ Below w.heap.size w w' := by
  obtain ⟨k, h⟩ := TopOnceSilent_pure a0_0 a0_1 a0_2 a0_3 a0_4 a0_5 a0_6 a1_0 a1_1 a2 a3 w0_1 w0_2 w0_3 w0_4 w0_5 w0_6 w1_0 w1_1 w2 w3
  refine (slotmeshtop_TopOnceSilent.calls k a0_0 a0_1 a0_2 a0_3 a0_4 a0_5 a0_6 a1_0 a1_1 a2 a3 true w h).mono ?_
  rintro e w' ⟨rfl, hd⟩
  exact ⟨rfl, hd⟩
end Go.Proofs.Ytdpihbhkghjclaa.P
end
