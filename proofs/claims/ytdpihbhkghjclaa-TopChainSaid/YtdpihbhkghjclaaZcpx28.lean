/- A claim's own texts, laid together by wip/zip.py without what the claim does not use. Conditions: none. -/
import Derived.Test.YtdpihbhkghjclaaZcpx0
import Derived.Test.YtdpihbhkghjclaaZcpx27
import Derived.BigRegion
import Derived.Defers
import Derived.Recover
import Derived.LaidEql
import Derived.Stop.Asserts
import Derived.WalkLawsBesides
import Derived.RowKitTokens
section
/- The Go functions of this claim as Lean functions, and the proofs that their calls answer so: written by wip/myprint.py over the kit's printer, hand-proved contracts laid in. Conditions: none. -/
namespace Go.Proofs.Ytdpihbhkghjclaa.P
open Go.RowKit Go.Proofs.YtdpihbhkghjclaaW.PrintWords Go.Proofs.YtdpihbhkghjclaaW.PrintLast Go.Proofs.YtdpihbhkghjclaaW.PrintMore
attribute [local go_sem] max2_int min2_int max_two min_two max_three min_three max_four min_four   -- for this text's walks alone
set_option linter.unusedVariables false
set_option linter.unusedSimpArgs false
/-! ### guard_Listen: function 25 (proved by hand) -/
def guard_Listen.f (k : Nat) (a0_0 : Bool) (a0_1 a0_2 a0_3 a0_4 a0_5 a0_6 a1_0 a1_1 : Int) (a2 : Int) : Option (Int × Int × Int) := (guard_Send.slot k a0_0 a0_1 a0_2 a0_3 a0_4 a0_5 a0_6 a1_0 a1_1 a2).bind fun r => if r.2.2 = 0 then some (wrap64 (r.1 - wrap64 (2004 + r.2.1)), wrap64 (r.1 + wrap64 (2004 + r.2.1)), 0) else some (0, 0, r.2.2)
section
open guard_Send (blk_at_new_ c1_ c2_ c7_ c9_)
set_option maxHeartbeats 8000000 in
set_option maxRecDepth 100000 in
theorem guard_Listen.listen_ok (k : Nat) (a0_0 : Bool) (a0_1 a0_2 a0_3 a0_4 a0_5 a0_6 a1_0 a1_1 : Int) (a2 r b e0 : Int) (w : World) (SL : guard_Send.slot k a0_0 a0_1 a0_2 a0_3 a0_4 a0_5 a0_6 a1_0 a1_1 a2 = some (r, b, 0))  :
    Calls Try.prog 25 #[.agg #[.bool a0_0, .int .i64 a0_1, .int .i64 a0_2, .int .i64 a0_3, .int .i64 a0_4, .int .i64 a0_5, .int .i64 a0_6], .agg #[.int .i64 a1_0, .int .i64 a1_1], .int .i64 a2] w fun e w' => e = .returned (.tuple #[.agg #[.int .i64 (wrap64 (r - wrap64 (2004 + b))), .int .i64 (wrap64 (r + wrap64 (2004 + b)))], .int .i64 0]) ∧ Below w.heap.size w w' := by
  replace SL := Aside0.mk SL
  have hu25 := Try.underlying25
  have hu27 := Try.underlying27
  have hu55 := Try.underlying55
  have hu68 := Try.underlying68
  have hu50 := Try.underlying50
  have hu23 := Try.underlying23
  have HB := Aside0.mk (Below.refl w.heap.size w)
  have hu29 := Try.underlying29
  have hmf : ∀ (fn : Fn) (first cap : Array Value) (w : World), (Instr.makeFunc fn first cap).run Try.prog w = .ok (.func fn first cap) w := fun _ _ _ _ => rfl
  go_enter_defers Try.func25, Try.ntmps25
  go_wp2_with (first | (go_at_call 32; (with_reducible refine (guard_Send.slot_calls k a0_0 a0_1 a0_2 a0_3 a0_4 a0_5 a0_6 a1_0 a1_1 a2 r b 0 _ SL.out).mono ?_); rintro e w1 ⟨hge, hb1⟩; (rw [if_pos rfl] at hge; subst hge); have S_1 : Aside0 ((w1).heap[w.heap.size]? = some (.cells #[.bool a0_0, .int .i64 a0_1, .int .i64 a0_2, .int .i64 a0_3, .int .i64 a0_4, .int .i64 a0_5, .int .i64 a0_6] 25 (0, 0))) := ⟨zj (by refine zg ?_ _; refine zg ?_ _; refine zg ?_ _; exact blk_at_new_ (by simp)) hb1⟩; have C_1 : Aside0 ((w1).heap[w.heap.size + 1]? = some (.cells #[.int .i64 a1_0, .int .i64 a1_1] 27 (0, 0))) := ⟨zj (by refine zg ?_ _; refine zg ?_ _; exact blk_at_new_ (by simp)) hb1⟩; have R_1 : Aside0 ((w1).heap[w.heap.size + 1 + 1]? = some (.cells #[.int .i64 0, .int .i64 0] 55 (0, 0))) := ⟨zj (by refine zg ?_ _; exact blk_at_new_ (by simp)) hb1⟩; have E_1 : Aside0 ((w1).heap[w.heap.size + 1 + 1 + 1]? = some (.cells #[.int .i64 0] 29 (0, 0))) := ⟨zj (by exact blk_at_new_ (by simp)) hb1⟩; have HBL1 : Aside0 (Below w.heap.size w w1) := ⟨zl (by apply zc; apply zc; apply zc; apply zc; exact HB.out) hb1⟩; have HBL1s : w.heap.size ≤ w1.heap.size := HBL1.out.size; clear hb1; obtain ⟨qS_1_0, qS_1_1, qS_1_2, qS_1_3, qS_1_4, qS_1_5, qS_1_6, qS_1_f, lS_1⟩ := c7_ S_1.out; obtain ⟨qC_1_0, qC_1_1, qC_1_f, lC_1⟩ := c2_ C_1.out; obtain ⟨qR_1_0, qR_1_1, qR_1_f, lR_1⟩ := c2_ R_1.out; obtain ⟨qE_1_0, qE_1_f, lE_1⟩ := c1_ E_1.out))
  refine leaves_cons (f := 31) (args := #[.pointer (some ⟨w.heap.size + 1 + 1 + 1, 0, none⟩)]) (by simp) (by simp [go_sem]) ?_
  refine (guard_Send.rescue_idle ⟨w.heap.size + 1 + 1 + 1, 0, none⟩ _).mono ?_
  rintro e u' w'' ⟨rfl, rfl, rfl⟩
  refine ⟨_, guard_Send.res_cc rfl _ _ (w.heap.size + 1 + 1) 55 #[.int .i64 (wrap64 (r - wrap64 (2004 + b))), .int .i64 (wrap64 (r + wrap64 (2004 + b)))] (0, 0) _ (w.heap.size + 1 + 1 + 1) 29 (.int .i64 0) rfl (by refine zu ?_ (by dsimp only; omega) _; refine zo (cs := #[.int .i64 (wrap64 (r - wrap64 (2004 + b))), .int .i64 0]) ?_ 1 _ rfl; refine zo (cs := #[.int .i64 0, .int .i64 0]) ?_ 0 _ rfl; exact R_1.out) Try.underlying55 (by kernel_rfl) rfl (by refine zo (cs := #[.int .i64 0]) ?_ 0 _ rfl; refine zu ?_ (by dsimp only; omega) _; refine zu ?_ (by dsimp only; omega) _; exact E_1.out) hu29, ?_⟩
  exact ⟨by first | rfl | (simp; done), by refine zh ?_ (by omega); refine zh ?_ (by omega); refine zh ?_ (by omega); exact HBL1.out⟩
set_option maxHeartbeats 8000000 in
set_option maxRecDepth 100000 in
theorem guard_Listen.listen_bad (k : Nat) (a0_0 : Bool) (a0_1 a0_2 a0_3 a0_4 a0_5 a0_6 a1_0 a1_1 : Int) (a2 r b e0 : Int) (w : World) (SL : guard_Send.slot k a0_0 a0_1 a0_2 a0_3 a0_4 a0_5 a0_6 a1_0 a1_1 a2 = some (r, b, e0)) (he : ¬ e0 = 0) :
    Calls Try.prog 25 #[.agg #[.bool a0_0, .int .i64 a0_1, .int .i64 a0_2, .int .i64 a0_3, .int .i64 a0_4, .int .i64 a0_5, .int .i64 a0_6], .agg #[.int .i64 a1_0, .int .i64 a1_1], .int .i64 a2] w fun e w' => e = .returned (.tuple #[.agg #[.int .i64 0, .int .i64 0], .int .i64 e0]) ∧ Below w.heap.size w w' := by
  replace SL := Aside0.mk SL
  replace he := Aside0.mk he
  have hu25 := Try.underlying25
  have hu27 := Try.underlying27
  have hu55 := Try.underlying55
  have hu68 := Try.underlying68
  have hu50 := Try.underlying50
  have hu23 := Try.underlying23
  have HB := Aside0.mk (Below.refl w.heap.size w)
  have hu29 := Try.underlying29
  have hmf : ∀ (fn : Fn) (first cap : Array Value) (w : World), (Instr.makeFunc fn first cap).run Try.prog w = .ok (.func fn first cap) w := fun _ _ _ _ => rfl
  go_enter_defers Try.func25, Try.ntmps25
  go_wp2_with (first | (go_at_call 32; (with_reducible refine (guard_Send.slot_calls k a0_0 a0_1 a0_2 a0_3 a0_4 a0_5 a0_6 a1_0 a1_1 a2 r b e0 _ SL.out).mono ?_); rintro e w1 ⟨hge, hb1⟩; (rw [if_neg he.out] at hge; subst hge); have S_1 : Aside0 ((w1).heap[w.heap.size]? = some (.cells #[.bool a0_0, .int .i64 a0_1, .int .i64 a0_2, .int .i64 a0_3, .int .i64 a0_4, .int .i64 a0_5, .int .i64 a0_6] 25 (0, 0))) := ⟨zj (by refine zg ?_ _; refine zg ?_ _; refine zg ?_ _; exact blk_at_new_ (by simp)) hb1⟩; have C_1 : Aside0 ((w1).heap[w.heap.size + 1]? = some (.cells #[.int .i64 a1_0, .int .i64 a1_1] 27 (0, 0))) := ⟨zj (by refine zg ?_ _; refine zg ?_ _; exact blk_at_new_ (by simp)) hb1⟩; have R_1 : Aside0 ((w1).heap[w.heap.size + 1 + 1]? = some (.cells #[.int .i64 0, .int .i64 0] 55 (0, 0))) := ⟨zj (by refine zg ?_ _; exact blk_at_new_ (by simp)) hb1⟩; have E_1 : Aside0 ((w1).heap[w.heap.size + 1 + 1 + 1]? = some (.cells #[.int .i64 0] 29 (0, 0))) := ⟨zj (by exact blk_at_new_ (by simp)) hb1⟩; have HBL1 : Aside0 (Below w.heap.size w w1) := ⟨zl (by apply zc; apply zc; apply zc; apply zc; exact HB.out) hb1⟩; have HBL1s : w.heap.size ≤ w1.heap.size := HBL1.out.size; clear hb1; obtain ⟨qS_1_0, qS_1_1, qS_1_2, qS_1_3, qS_1_4, qS_1_5, qS_1_6, qS_1_f, lS_1⟩ := c7_ S_1.out; obtain ⟨qC_1_0, qC_1_1, qC_1_f, lC_1⟩ := c2_ C_1.out; obtain ⟨qR_1_0, qR_1_1, qR_1_f, lR_1⟩ := c2_ R_1.out; obtain ⟨qE_1_0, qE_1_f, lE_1⟩ := c1_ E_1.out))
  refine leaves_cons (f := 31) (args := #[.pointer (some ⟨w.heap.size + 1 + 1 + 1, 0, none⟩)]) (by simp) (by simp [go_sem]) ?_
  have hEc : (w1).cell? ⟨w.heap.size + 1 + 1 + 1, 0, none⟩ = some (.int .i64 0) := (zd E_1.out 0).trans rfl
  have hEf := za E_1.out 0
  refine (guard_Send.rescue_caught ⟨w.heap.size + 1 + 1 + 1, 0, none⟩ 0 e0 [] _ hEc hEf).mono ?_
  rintro e u' w'' ⟨rfl, rfl, rfl⟩
  refine ⟨_, guard_Send.res_cc rfl _ _ (w.heap.size + 1 + 1) 55 #[.int .i64 0, .int .i64 0] (0, 0) _ (w.heap.size + 1 + 1 + 1) 29 (.int .i64 e0) rfl (by refine zu ?_ (by dsimp only; omega) _; exact R_1.out) Try.underlying55 (by kernel_rfl) rfl (by refine zo (cs := #[.int .i64 0]) ?_ 0 _ rfl; exact E_1.out) hu29, ?_⟩
  exact ⟨by first | rfl | (simp; done), by refine zh ?_ (by omega); exact HBL1.out⟩
theorem guard_Listen.calls (k : Nat) (a0_0 : Bool) (a0_1 a0_2 a0_3 a0_4 a0_5 a0_6 a1_0 a1_1 : Int) (a2 r1 r2 r3 : Int) (w : World) (h : guard_Listen.f k a0_0 a0_1 a0_2 a0_3 a0_4 a0_5 a0_6 a1_0 a1_1 a2 = some (r1, r2, r3)) :
    Calls Try.prog 25 #[.agg #[.bool a0_0, .int .i64 a0_1, .int .i64 a0_2, .int .i64 a0_3, .int .i64 a0_4, .int .i64 a0_5, .int .i64 a0_6], .agg #[.int .i64 a1_0, .int .i64 a1_1], .int .i64 a2] w fun e w' => e = .returned (.tuple #[.agg #[.int .i64 r1, .int .i64 r2], .int .i64 r3]) ∧ Below w.heap.size w w' := by
  have H := h
  clear h
  unfold guard_Listen.f at H
  replace H := Option.bind_eq_some_iff.mp H
  obtain ⟨⟨r, b, e0⟩, SL, H⟩ := H
  dsimp only at H
  by_cases b0 : e0 = 0
  · subst b0
    rw [if_pos rfl] at H
    simp only [Option.some.injEq, Prod.mk.injEq] at H
    obtain ⟨rfl, rfl, rfl⟩ := H
    exact guard_Listen.listen_ok k a0_0 a0_1 a0_2 a0_3 a0_4 a0_5 a0_6 a1_0 a1_1 a2 r b 0 w SL
  · rw [if_neg b0] at H
    simp only [Option.some.injEq, Prod.mk.injEq] at H
    obtain ⟨rfl, rfl, rfl⟩ := H
    exact guard_Listen.listen_bad k a0_0 a0_1 a0_2 a0_3 a0_4 a0_5 a0_6 a1_0 a1_1 a2 r b e0 w SL b0
end
end Go.Proofs.Ytdpihbhkghjclaa.P
end
