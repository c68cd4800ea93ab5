/- A claim's own texts, laid together by wip/zip.py without what the claim does not use. Conditions: none. -/
import Derived.Test.YtdpihbhkghjclaaZgpx26
import Derived.Test.YtdpihbhkghjclaaZgpx27
section
/- Plain laws of slots that are begun: on time, one after the other, sooner and later. Conditions: none. -/
namespace Go.Proofs.Ytdpihbhkghjclaa.P
open Go.RowKit Go.Proofs.YtdpihbhkghjclaaW.PrintWords Go.Proofs.YtdpihbhkghjclaaW.PrintLast Go.Proofs.YtdpihbhkghjclaaW.PrintMore
set_option linter.unusedVariables false
set_option linter.unusedSimpArgs false
theorem SV_vp {l h a ho so he : Int} (hs : SV true l h a ho so he) (c : ho ≠ 0) : 1 ≤ ho ∧ VP l h a := by
  unfold SV at hs
  rw [if_pos rfl] at hs
  rcases hs.2 with q | q
  · exact absurd q c
  · exact ⟨q.1, q.2.2⟩
theorem BO_root {l h a ho so he now : Int} (hs : SV true l h a ho so he) (c : ho = 0) : BO true l h a ho so he now = (0, 0) := by
  unfold BO
  rw [if_pos hs, if_pos rfl, if_pos c]
theorem BO_ok {l h a ho so he now : Int} (hs : SV true l h a ho so he) (c : ho ≠ 0) (e : (BO true l h a ho so he now).2 = 0) :
    VP l h a ∧ (a ≤ now ∧ now ≤ 20000000000000) ∧ VP (l - MO (now - a)) (h + MO (now - a)) now ∧ (BO true l h a ho so he now).1 = (h + MO (now - a) - (l - MO (now - a)) + 1) / 2 ∧ (h + MO (now - a) - (l - MO (now - a)) + 1) / 2 ≤ 2000 := by
  unfold BO at e ⊢
  rw [if_pos hs, if_pos rfl, if_neg c] at e ⊢
  rcases G_form l h a now with ⟨g, v, n1, n2, v2⟩ | g | ⟨g, _⟩
  · rw [g] at e ⊢
    dsimp only at e ⊢
    rw [if_pos rfl] at e ⊢
    split at e
    · exact absurd e (by simp)
    · rename_i q
      rw [if_neg q]
      exact ⟨v, ⟨n1, n2⟩, v2, rfl, by omega⟩
  · rw [g] at e; exact absurd e (by simp)
  · rw [g] at e; exact absurd e (by simp)
/-- An earlier time that is not before the span's own has a bound, if the later one has, and not a greater one. -/
theorem BO_earlier {l h a ho so he now later : Int} (hs : SV true l h a ho so he) (h0 : ho ≠ 0 → a ≤ now) (h1 : now ≤ later) (e : (BO true l h a ho so he later).2 = 0) :
    (BO true l h a ho so he now).2 = 0 ∧ (BO true l h a ho so he now).1 ≤ (BO true l h a ho so he later).1 := by
  by_cases c : ho = 0
  · rw [BO_root hs c, BO_root hs c]
    exact ⟨rfl, Int.le_refl _⟩
  · obtain ⟨v, ⟨n1, n2⟩, v2, e1, e2⟩ := BO_ok hs c e
    have h2 := h0 c
    have hm : 0 ≤ MO (now - a) ∧ MO (now - a) ≤ MO (later - a) := by unfold MO; omega
    have w2 : VP (l - MO (now - a)) (h + MO (now - a)) now := by
      unfold VP at v v2 ⊢
      omega
    have g : G l h a now = (l - MO (now - a), h + MO (now - a), now, 0) := by unfold G; rw [if_pos ⟨v, h2, by omega⟩, if_pos w2]
    rw [e1]
    unfold BO
    rw [if_pos hs, if_pos rfl, if_neg c, g]
    dsimp only
    rw [if_pos rfl, if_neg (by omega)]
    exact ⟨rfl, by dsimp only; omega⟩
theorem OW_le {l h ho x y : Int} (h1 : x ≤ y) : OW l h ho x ≤ OW l h ho y := by
  unfold OW
  split <;> omega
theorem AT_exact (t : Int) : AT 0 0 t = t := by unfold AT; omega
theorem FT_exact {x : Int} (h0 : 0 ≤ x) (h1 : x ≤ 10000000000000) : FT 0 0 x = x :=
  FT_eq (by unfold CV; omega) ⟨⟨h0, by omega⟩, fun t _ q => by rw [AT_exact]; exact q, fun _ => by rw [AT_exact]; omega⟩
theorem near1 {off d l h t T own S : Int} (hv : CV off d) (q : t ≤ T) (t1 : l ≤ t - AT off d t) (t2 : t - AT off d t ≤ h) (h1 : own ≤ AT off d T) (h2 : AT off d T ≤ own + 1) (h3 : AT off d t ≤ own) (e : own = S - (l + h) / 2) :
    T - S ≤ (h + MO (own - AT off d t) - (l - MO (own - AT off d t)) + 1) / 2 + 2 ∧ -((h + MO (own - AT off d t) - (l - MO (own - AT off d t)) + 1) / 2) - 2 ≤ T - S := by
  have g := AT_grow hv q
  generalize AT off d T = p at *
  generalize AT off d t = a at *
  unfold MO at *
  omega
theorem near2 {off d l h t T own S : Int} (hv : CV off d) (q : T < t) (t1 : l ≤ t - AT off d t) (t2 : t - AT off d t ≤ h) (h1 : own ≤ AT off d T) (h3 : AT off d t ≤ own) (e : own = S - (l + h) / 2) :
    T - S ≤ (h + MO (own - AT off d t) - (l - MO (own - AT off d t)) + 1) / 2 + 2 ∧ -((h + MO (own - AT off d t) - (l - MO (own - AT off d t)) + 1) / 2) - 2 ≤ T - S := by
  have m := AT_mono hv (show T ≤ t by omega)
  have hd : -50 ≤ d ∧ d ≤ 50 := by unfold CV at hv; omega
  have hb := mul_df (x := T) (y := t) hd.1 hd.2 (by omega)
  have mo : 1 ≤ MO (own - AT off d t) := by unfold MO; omega
  have e1 : AT off d T = AT off d t := by omega
  have e2 : t = T + 1 := by
    have e3 := e1
    unfold AT at e3
    generalize d * T = p1 at *
    generalize d * t = p2 at *
    omega
  generalize MO (own - AT off d t) = mm at *
  generalize AT off d T = p at *
  generalize AT off d t = p2 at *
  omega
/-- A slot is begun within the bound plus 2 of its true beginning. -/
theorem on_time {l h a ho so he off d t asn : Int} (hs : SV true l h a ho so he) (hv : CV off d) (ht : 0 ≤ t ∧ t ≤ 10000000000000) (hn : 0 ≤ asn ∧ asn < 1000000000)
    (hi : if ho = 0 then off = 0 ∧ d = 0 else a = AT off d t ∧ l ≤ t - AT off d t ∧ t - AT off d t ≤ h)
    (e : (BO true l h a ho so he (OW l h ho asn)).2 = 0) (hf : FT off d (OW l h ho asn) ≤ 10000000000000) :
    FT off d (OW l h ho asn) - asn * 10000 ≤ (BO true l h a ho so he (OW l h ho asn)).1 + 2 ∧ -(BO true l h a ho so he (OW l h ho asn)).1 - 2 ≤ FT off d (OW l h ho asn) - asn * 10000 := by
  by_cases c : ho = 0
  · rw [if_pos c] at hi
    obtain ⟨rfl, rfl⟩ := hi
    have ow : OW l h ho asn = asn * 10000 := by unfold OW; rw [if_neg (by omega)]
    rw [ow, FT_exact (by omega) (by omega), BO_root hs c]
    dsimp only
    omega
  · rw [if_neg c] at hi
    obtain ⟨ha, t1, t2⟩ := hi
    obtain ⟨v, ⟨n1, n2⟩, v2, e1, e2⟩ := BO_ok hs c e
    have hp := (SV_vp hs c).1
    have ow : OW l h ho asn = asn * 10000 - (l + h) / 2 := by unfold OW; rw [if_pos (by omega)]
    rw [e1, ha]
    rw [ha] at n1
    have h1 := (FT_spec hv (OW l h ho asn)).1.2.2 hf
    have h0 := (FT_spec hv (OW l h ho asn)).1.1.1
    by_cases q : t ≤ FT off d (OW l h ho asn)
    · refine near1 hv q t1 t2 h1 ?_ n1 ow
      by_cases z : 0 < FT off d (OW l h ho asn)
      · exact (FT_shows hv z hf).2
      · have : FT off d (OW l h ho asn) = t := by omega
        rw [this]
        omega
    · exact near2 hv (by omega) t1 t2 h1 n1 ow
/-- Of two slots, one after the other, the second one is begun 9998 to 10002 microseconds later, unless the first one is begun at the beginning. -/
theorem slots_apart {off d x : Int} (hv : CV off d) (h0 : 0 < FT off d x) (h1 : FT off d x ≤ 10000000000000) (h2 : FT off d (x + 10000) ≤ 10000000000000) :
    9998 ≤ FT off d (x + 10000) - FT off d x ∧ FT off d (x + 10000) - FT off d x ≤ 10002 := by
  have m := FT_mono hv (show x ≤ x + 10000 by omega)
  have s1 := FT_shows hv h0 h1
  have s2 := FT_shows hv (show 0 < FT off d (x + 10000) by omega) h2
  have hb := mul_df (x := FT off d x) (y := FT off d (x + 10000)) (by unfold CV at hv; exact hv.2.2.1) (by unfold CV at hv; exact hv.2.2.2) m
  unfold AT at s1 s2
  generalize FT off d x = T at *
  generalize FT off d (x + 10000) = U at *
  generalize d * T = p at *
  generalize d * U = q at *
  omega
end Go.Proofs.Ytdpihbhkghjclaa.P
end
