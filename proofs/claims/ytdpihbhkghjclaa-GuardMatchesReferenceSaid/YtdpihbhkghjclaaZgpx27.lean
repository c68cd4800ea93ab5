/- A claim's own texts, laid together by wip/zip.py without what the claim does not use. Conditions: none. -/
import Derived.Test.YtdpihbhkghjclaaZgpx0
import Derived.Test.YtdpihbhkghjclaaZgpx26
import Derived.BigRegion
import Derived.Defers
import Derived.Recover
import Derived.LaidEql
import Derived.Stop.Asserts
import Derived.WalkLawsBesides
import Derived.RowKitTokens
import Derived.Test.YtdpihbhkghjclaaZgpx22
import Derived.Test.YtdpihbhkghjclaaZgpx13
import Derived.Test.YtdpihbhkghjclaaProg
import Derived.WalkKit
import Derived.ProofKit
import Derived.ChangeArms
import Derived.WideShapes
import Derived.KernelRfl
section
/- The Go functions of this claim as Lean functions, and the proofs that their calls answer so: written by wip/myprint.py over the kit's printer, hand-proved contracts laid in. Conditions: none. -/
namespace Go.Proofs.Ytdpihbhkghjclaa.P
open Go.RowKit Go.Proofs.YtdpihbhkghjclaaW.PrintWords Go.Proofs.YtdpihbhkghjclaaW.PrintLast Go.Proofs.YtdpihbhkghjclaaW.PrintMore
attribute [local go_sem] max2_int min2_int max_two min_two max_three min_three max_four min_four   -- for this text's walks alone
set_option linter.unusedVariables false
set_option linter.unusedSimpArgs false
/-! ### guard_Listen: function 25 (proved by hand) -/
def guard_Listen.f (k : Nat) (a0_0 : Bool) (a0_1 a0_2 a0_3 a0_4 a0_5 a0_6 a1_0 a1_1 : Int) (a2 : Int) : Option (Int × Int × Int) := (guard_Send.slot k a0_0 a0_1 a0_2 a0_3 a0_4 a0_5 a0_6 a1_0 a1_1 a2).bind fun r => if r.2.2 = 0 then some (wrap64 (r.1 - wrap64 (2004 + r.2.1)), wrap64 (r.1 + wrap64 (2004 + r.2.1)), 0) else some (0, 0, r.2.2)
section
open guard_Send (blk_at_new_ c1_ c2_ c7_ c9_)
set_option maxHeartbeats 8000000 in
set_option maxRecDepth 100000 in
theorem guard_Listen.listen_ok (k : Nat) (a0_0 : Bool) (a0_1 a0_2 a0_3 a0_4 a0_5 a0_6 a1_0 a1_1 : Int) (a2 r b e0 : Int) (w : World) (SL : guard_Send.slot k a0_0 a0_1 a0_2 a0_3 a0_4 a0_5 a0_6 a1_0 a1_1 a2 = some (r, b, 0))  :
    Calls Try.prog 25 #[.agg #[.bool a0_0, .int .i64 a0_1, .int .i64 a0_2, .int .i64 a0_3, .int .i64 a0_4, .int .i64 a0_5, .int .i64 a0_6], .agg #[.int .i64 a1_0, .int .i64 a1_1], .int .i64 a2] w fun e w' => e = .returned (.tuple #[.agg #[.int .i64 (wrap64 (r - wrap64 (2004 + b))), .int .i64 (wrap64 (r + wrap64 (2004 + b)))], .int .i64 0]) ∧ Below w.heap.size w w' := by
  replace SL := Aside0.mk SL
  have hu25 := Try.underlying25
  have hu27 := Try.underlying27
  have hu55 := Try.underlying55
  have hu68 := Try.underlying68
  have hu50 := Try.underlying50
  have hu23 := Try.underlying23
  have HB := Aside0.mk (Below.refl w.heap.size w)
  have hu29 := Try.underlying29
  have hmf : ∀ (fn : Fn) (first cap : Array Value) (w : World), (Instr.makeFunc fn first cap).run Try.prog w = .ok (.func fn first cap) w := fun _ _ _ _ => rfl
  go_enter_defers Try.func25, Try.ntmps25
  go_wp2_with (first | (go_at_call 32; (with_reducible refine (guard_Send.slot_calls k a0_0 a0_1 a0_2 a0_3 a0_4 a0_5 a0_6 a1_0 a1_1 a2 r b 0 _ SL.out).mono ?_); rintro e w1 ⟨hge, hb1⟩; (rw [if_pos rfl] at hge; subst hge); have S_1 : Aside0 ((w1).heap[w.heap.size]? = some (.cells #[.bool a0_0, .int .i64 a0_1, .int .i64 a0_2, .int .i64 a0_3, .int .i64 a0_4, .int .i64 a0_5, .int .i64 a0_6] 25 (0, 0))) := ⟨blk_below (by refine blk_alloc ?_ _; refine blk_alloc ?_ _; refine blk_alloc ?_ _; exact blk_at_new_ (by simp)) hb1⟩; have C_1 : Aside0 ((w1).heap[w.heap.size + 1]? = some (.cells #[.int .i64 a1_0, .int .i64 a1_1] 27 (0, 0))) := ⟨blk_below (by refine blk_alloc ?_ _; refine blk_alloc ?_ _; exact blk_at_new_ (by simp)) hb1⟩; have R_1 : Aside0 ((w1).heap[w.heap.size + 1 + 1]? = some (.cells #[.int .i64 0, .int .i64 0] 55 (0, 0))) := ⟨blk_below (by refine blk_alloc ?_ _; exact blk_at_new_ (by simp)) hb1⟩; have E_1 : Aside0 ((w1).heap[w.heap.size + 1 + 1 + 1]? = some (.cells #[.int .i64 0] 29 (0, 0))) := ⟨blk_below (by exact blk_at_new_ (by simp)) hb1⟩; have HBL1 : Aside0 (Below w.heap.size w w1) := ⟨below_step (by apply below_alloc; apply below_alloc; apply below_alloc; apply below_alloc; exact HB.out) hb1⟩; have HBL1s : w.heap.size ≤ w1.heap.size := HBL1.out.size; clear hb1; obtain ⟨qS_1_0, qS_1_1, qS_1_2, qS_1_3, qS_1_4, qS_1_5, qS_1_6, qS_1_f, lS_1⟩ := c7_ S_1.out; obtain ⟨qC_1_0, qC_1_1, qC_1_f, lC_1⟩ := c2_ C_1.out; obtain ⟨qR_1_0, qR_1_1, qR_1_f, lR_1⟩ := c2_ R_1.out; obtain ⟨qE_1_0, qE_1_f, lE_1⟩ := c1_ E_1.out))
  refine leaves_cons (f := 31) (args := #[.pointer (some ⟨w.heap.size + 1 + 1 + 1, 0, none⟩)]) (by simp) (by simp [go_sem]) ?_
  refine (guard_Send.rescue_idle ⟨w.heap.size + 1 + 1 + 1, 0, none⟩ _).mono ?_
  rintro e u' w'' ⟨rfl, rfl, rfl⟩
  refine ⟨_, guard_Send.res_cc rfl _ _ (w.heap.size + 1 + 1) 55 #[.int .i64 (wrap64 (r - wrap64 (2004 + b))), .int .i64 (wrap64 (r + wrap64 (2004 + b)))] (0, 0) _ (w.heap.size + 1 + 1 + 1) 29 (.int .i64 0) rfl (by refine blk_far ?_ (by dsimp only; omega) _; refine blk_put (cs := #[.int .i64 (wrap64 (r - wrap64 (2004 + b))), .int .i64 0]) ?_ 1 _ rfl; refine blk_put (cs := #[.int .i64 0, .int .i64 0]) ?_ 0 _ rfl; exact R_1.out) Try.underlying55 (by kernel_rfl) rfl (by refine blk_put (cs := #[.int .i64 0]) ?_ 0 _ rfl; refine blk_far ?_ (by dsimp only; omega) _; refine blk_far ?_ (by dsimp only; omega) _; exact E_1.out) hu29, ?_⟩
  exact ⟨by first | rfl | (simp; done), by refine below_set ?_ (by omega); refine below_set ?_ (by omega); refine below_set ?_ (by omega); exact HBL1.out⟩
set_option maxHeartbeats 8000000 in
set_option maxRecDepth 100000 in
theorem guard_Listen.listen_bad (k : Nat) (a0_0 : Bool) (a0_1 a0_2 a0_3 a0_4 a0_5 a0_6 a1_0 a1_1 : Int) (a2 r b e0 : Int) (w : World) (SL : guard_Send.slot k a0_0 a0_1 a0_2 a0_3 a0_4 a0_5 a0_6 a1_0 a1_1 a2 = some (r, b, e0)) (he : ¬ e0 = 0) :
    Calls Try.prog 25 #[.agg #[.bool a0_0, .int .i64 a0_1, .int .i64 a0_2, .int .i64 a0_3, .int .i64 a0_4, .int .i64 a0_5, .int .i64 a0_6], .agg #[.int .i64 a1_0, .int .i64 a1_1], .int .i64 a2] w fun e w' => e = .returned (.tuple #[.agg #[.int .i64 0, .int .i64 0], .int .i64 e0]) ∧ Below w.heap.size w w' := by
  replace SL := Aside0.mk SL
  replace he := Aside0.mk he
  have hu25 := Try.underlying25
  have hu27 := Try.underlying27
  have hu55 := Try.underlying55
  have hu68 := Try.underlying68
  have hu50 := Try.underlying50
  have hu23 := Try.underlying23
  have HB := Aside0.mk (Below.refl w.heap.size w)
  have hu29 := Try.underlying29
  have hmf : ∀ (fn : Fn) (first cap : Array Value) (w : World), (Instr.makeFunc fn first cap).run Try.prog w = .ok (.func fn first cap) w := fun _ _ _ _ => rfl
  go_enter_defers Try.func25, Try.ntmps25
  go_wp2_with (first | (go_at_call 32; (with_reducible refine (guard_Send.slot_calls k a0_0 a0_1 a0_2 a0_3 a0_4 a0_5 a0_6 a1_0 a1_1 a2 r b e0 _ SL.out).mono ?_); rintro e w1 ⟨hge, hb1⟩; (rw [if_neg he.out] at hge; subst hge); have S_1 : Aside0 ((w1).heap[w.heap.size]? = some (.cells #[.bool a0_0, .int .i64 a0_1, .int .i64 a0_2, .int .i64 a0_3, .int .i64 a0_4, .int .i64 a0_5, .int .i64 a0_6] 25 (0, 0))) := ⟨blk_below (by refine blk_alloc ?_ _; refine blk_alloc ?_ _; refine blk_alloc ?_ _; exact blk_at_new_ (by simp)) hb1⟩; have C_1 : Aside0 ((w1).heap[w.heap.size + 1]? = some (.cells #[.int .i64 a1_0, .int .i64 a1_1] 27 (0, 0))) := ⟨blk_below (by refine blk_alloc ?_ _; refine blk_alloc ?_ _; exact blk_at_new_ (by simp)) hb1⟩; have R_1 : Aside0 ((w1).heap[w.heap.size + 1 + 1]? = some (.cells #[.int .i64 0, .int .i64 0] 55 (0, 0))) := ⟨blk_below (by refine blk_alloc ?_ _; exact blk_at_new_ (by simp)) hb1⟩; have E_1 : Aside0 ((w1).heap[w.heap.size + 1 + 1 + 1]? = some (.cells #[.int .i64 0] 29 (0, 0))) := ⟨blk_below (by exact blk_at_new_ (by simp)) hb1⟩; have HBL1 : Aside0 (Below w.heap.size w w1) := ⟨below_step (by apply below_alloc; apply below_alloc; apply below_alloc; apply below_alloc; exact HB.out) hb1⟩; have HBL1s : w.heap.size ≤ w1.heap.size := HBL1.out.size; clear hb1; obtain ⟨qS_1_0, qS_1_1, qS_1_2, qS_1_3, qS_1_4, qS_1_5, qS_1_6, qS_1_f, lS_1⟩ := c7_ S_1.out; obtain ⟨qC_1_0, qC_1_1, qC_1_f, lC_1⟩ := c2_ C_1.out; obtain ⟨qR_1_0, qR_1_1, qR_1_f, lR_1⟩ := c2_ R_1.out; obtain ⟨qE_1_0, qE_1_f, lE_1⟩ := c1_ E_1.out))
  refine leaves_cons (f := 31) (args := #[.pointer (some ⟨w.heap.size + 1 + 1 + 1, 0, none⟩)]) (by simp) (by simp [go_sem]) ?_
  have hEc : (w1).cell? ⟨w.heap.size + 1 + 1 + 1, 0, none⟩ = some (.int .i64 0) := (blk_cell E_1.out 0).trans rfl
  have hEf := blk_frozen E_1.out 0
  refine (guard_Send.rescue_caught ⟨w.heap.size + 1 + 1 + 1, 0, none⟩ 0 e0 [] _ hEc hEf).mono ?_
  rintro e u' w'' ⟨rfl, rfl, rfl⟩
  refine ⟨_, guard_Send.res_cc rfl _ _ (w.heap.size + 1 + 1) 55 #[.int .i64 0, .int .i64 0] (0, 0) _ (w.heap.size + 1 + 1 + 1) 29 (.int .i64 e0) rfl (by refine blk_far ?_ (by dsimp only; omega) _; exact R_1.out) Try.underlying55 (by kernel_rfl) rfl (by refine blk_put (cs := #[.int .i64 0]) ?_ 0 _ rfl; exact E_1.out) hu29, ?_⟩
  exact ⟨by first | rfl | (simp; done), by refine below_set ?_ (by omega); exact HBL1.out⟩
theorem guard_Listen.calls (k : Nat) (a0_0 : Bool) (a0_1 a0_2 a0_3 a0_4 a0_5 a0_6 a1_0 a1_1 : Int) (a2 r1 r2 r3 : Int) (w : World) (h : guard_Listen.f k a0_0 a0_1 a0_2 a0_3 a0_4 a0_5 a0_6 a1_0 a1_1 a2 = some (r1, r2, r3)) :
    Calls Try.prog 25 #[.agg #[.bool a0_0, .int .i64 a0_1, .int .i64 a0_2, .int .i64 a0_3, .int .i64 a0_4, .int .i64 a0_5, .int .i64 a0_6], .agg #[.int .i64 a1_0, .int .i64 a1_1], .int .i64 a2] w fun e w' => e = .returned (.tuple #[.agg #[.int .i64 r1, .int .i64 r2], .int .i64 r3]) ∧ Below w.heap.size w w' := by
  have H := h
  clear h
  unfold guard_Listen.f at H
  replace H := Option.bind_eq_some_iff.mp H
  obtain ⟨⟨r, b, e0⟩, SL, H⟩ := H
  dsimp only at H
  by_cases b0 : e0 = 0
  · subst b0
    rw [if_pos rfl] at H
    simp only [Option.some.injEq, Prod.mk.injEq] at H
    obtain ⟨rfl, rfl, rfl⟩ := H
    exact guard_Listen.listen_ok k a0_0 a0_1 a0_2 a0_3 a0_4 a0_5 a0_6 a1_0 a1_1 a2 r b 0 w SL
  · rw [if_neg b0] at H
    simp only [Option.some.injEq, Prod.mk.injEq] at H
    obtain ⟨rfl, rfl, rfl⟩ := H
    exact guard_Listen.listen_bad k a0_0 a0_1 a0_2 a0_3 a0_4 a0_5 a0_6 a1_0 a1_1 a2 r b e0 w SL b0
end
end Go.Proofs.Ytdpihbhkghjclaa.P
end
section
/- The Go functions of this claim as Lean functions, and the proofs that their calls answer so: written by wip/myprint.py over the kit's printer, hand-proved contracts laid in. Conditions: none. -/
namespace Go.Proofs.Ytdpihbhkghjclaa.P
open Go.RowKit Go.Proofs.YtdpihbhkghjclaaW.PrintWords Go.Proofs.YtdpihbhkghjclaaW.PrintLast Go.Proofs.YtdpihbhkghjclaaW.PrintMore
attribute [local go_sem] max2_int min2_int max_two min_two max_three min_three max_four min_four   -- for this text's walks alone
set_option linter.unusedVariables false
set_option linter.unusedSimpArgs false
/-! ### slotmeshref08_True: function 21 -/
def slotmeshref08_True.f (a0_0 : Int) (a0_1 : Int) (a0_2 : Int) (a1 : Int) (a2 : Int) : Option (Bool) := if a0_2 = a2 then (if (wrap64 (a1 - a2)) ≥ a0_0 then (some (decide ((wrap64 (a1 - a2)) ≤ a0_1))) else (some false)) else (some false)
set_option maxHeartbeats 8000000 in
set_option maxRecDepth 100000 in
theorem slotmeshref08_True.calls (a0_0 : Int) (a0_1 : Int) (a0_2 : Int) (a1 : Int) (a2 : Int) (r : Bool) (w : World) (h : slotmeshref08_True.f a0_0 a0_1 a0_2 a1 a2 = some r) :
    Calls Try.prog 21 #[.agg #[.int .i64 a0_0, .int .i64 a0_1, .int .i64 a0_2], .int .i64 a1, .int .i64 a2] w fun e w' => e = .returned (.bool r) ∧ Below w.heap.size w w' := by
  have hu23 := Try.underlying23
  have HB := Aside0.mk (Below.refl w.heap.size w)
  have H : (if a0_2 = a2 then (if (wrap64 (a1 - a2)) ≥ a0_0 then (some (decide ((wrap64 (a1 - a2)) ≤ a0_1))) else (some false)) else (some false)) = some r := h
  clear h
  by_cases c4 : a0_2 = a2
  · rw [if_pos c4] at H
    have c4b0 : (a0_2 == a2) = true := beq_iff_eq.mpr c4
    have c4b1 : (a0_2 != a2) = false := bne_eq_false_iff_eq.mpr c4
    clear c4
    by_cases c5 : (wrap64 (a1 - a2)) ≥ a0_0
    · rw [if_pos c5] at H
      have c5b0 : decide (a0_0 ≤ (wrap64 (a1 - a2))) = true := decide_eq_true c5
      clear c5
      obtain rfl := Option.some.inj H
      go_enter Try.func21, Try.ntmps21
      go_wp2_with (first | ((with_reducible refine gate_dst (N := 3) rfl ?_); refine box_event ?hg (N := 3) ?hd (cs := #[.int .i64 a0_0, .int .i64 a0_1, .int .i64 a0_2]) (t := 23) ?hr ?_; (case hd => rfl); (case hg => rfl); (case hr => first | (go_simp; done) | (go_simp; rfl)); intro gb289 hg w6 hbox hb; have n0_ := Aside0.mk (below_step (by repeat (first | (with_reducible first | exact HB.out | apply below_alloc | apply pw_below_drewN | apply below_drew1) | exact HB.out)) hb); have n1_ := Aside0.mk (hbox); have n2_ := Aside0.mk ((by rw [hg]; exact (below_size (by repeat (first | (with_reducible first | exact HB.out | apply below_alloc | apply pw_below_drewN | apply below_drew1) | exact HB.out))) : w.heap.size ≤ gb289)); have n3_ := Aside0.mk ((by rw [hg]; exact (below_size (by repeat (first | (with_reducible first | exact HB.out | apply below_alloc | apply pw_below_drewN | apply below_drew1) | exact HB.out))) : w.heap.size ≤ gb289)); clear HB; have HB := n0_; have BK289 := n1_; have GW289 := n2_; have GE289 := n3_; clear n0_ n1_ n2_ n3_; clear hb hbox hg; have hcz7_0 : w6.cell? ⟨gb289, 0, none⟩ = some (.int .i64 a0_0) := (blk_cell BK289.out 0).trans rfl; have hcz7_1 : w6.cell? ⟨gb289, 1, none⟩ = some (.int .i64 a0_1) := (blk_cell BK289.out 1).trans rfl; have hcz7_2 : w6.cell? ⟨gb289, 2, none⟩ = some (.int .i64 a0_2) := (blk_cell BK289.out 2).trans rfl; have hfz7_0 := blk_frozen BK289.out 0; have hfz7_1 := blk_frozen BK289.out 1; have hfz7_2 := blk_frozen BK289.out 2))
      go_ret
      exact ⟨by first | rfl | (simp [errW_none, errW_some] <;> rfl) | (simp [*, errW_none, errW_some] <;> rfl), by repeat (first | (with_reducible first | exact HB.out | apply below_alloc | apply pw_below_drewN | apply below_drew1 | refine below_set ?_ GE289.out) | exact HB.out)⟩
    · rw [if_neg c5] at H
      have c5b0 : decide (a0_0 ≤ (wrap64 (a1 - a2))) = false := decide_eq_false c5
      clear c5
      obtain rfl := Option.some.inj H
      go_enter Try.func21, Try.ntmps21
      go_wp2_with (first | ((with_reducible refine gate_dst (N := 3) rfl ?_); refine box_event ?hg (N := 3) ?hd (cs := #[.int .i64 a0_0, .int .i64 a0_1, .int .i64 a0_2]) (t := 23) ?hr ?_; (case hd => rfl); (case hg => rfl); (case hr => first | (go_simp; done) | (go_simp; rfl)); intro gb289 hg w8 hbox hb; have n0_ := Aside0.mk (below_step (by repeat (first | (with_reducible first | exact HB.out | apply below_alloc | apply pw_below_drewN | apply below_drew1) | exact HB.out)) hb); have n1_ := Aside0.mk (hbox); have n2_ := Aside0.mk ((by rw [hg]; exact (below_size (by repeat (first | (with_reducible first | exact HB.out | apply below_alloc | apply pw_below_drewN | apply below_drew1) | exact HB.out))) : w.heap.size ≤ gb289)); have n3_ := Aside0.mk ((by rw [hg]; exact (below_size (by repeat (first | (with_reducible first | exact HB.out | apply below_alloc | apply pw_below_drewN | apply below_drew1) | exact HB.out))) : w.heap.size ≤ gb289)); clear HB; have HB := n0_; have BK289 := n1_; have GW289 := n2_; have GE289 := n3_; clear n0_ n1_ n2_ n3_; clear hb hbox hg; have hcz9_0 : w8.cell? ⟨gb289, 0, none⟩ = some (.int .i64 a0_0) := (blk_cell BK289.out 0).trans rfl; have hcz9_1 : w8.cell? ⟨gb289, 1, none⟩ = some (.int .i64 a0_1) := (blk_cell BK289.out 1).trans rfl; have hcz9_2 : w8.cell? ⟨gb289, 2, none⟩ = some (.int .i64 a0_2) := (blk_cell BK289.out 2).trans rfl; have hfz9_0 := blk_frozen BK289.out 0; have hfz9_1 := blk_frozen BK289.out 1; have hfz9_2 := blk_frozen BK289.out 2))
      go_ret
      exact ⟨by first | rfl | (simp [errW_none, errW_some] <;> rfl) | (simp [*, errW_none, errW_some] <;> rfl), by repeat (first | (with_reducible first | exact HB.out | apply below_alloc | apply pw_below_drewN | apply below_drew1 | refine below_set ?_ GE289.out) | exact HB.out)⟩
  · rw [if_neg c4] at H
    have c4b0 : (a0_2 == a2) = false := beq_eq_false_iff_ne.mpr c4
    have c4b1 : (a0_2 != a2) = true := bne_iff_ne.mpr c4
    obtain rfl := Option.some.inj H
    go_enter Try.func21, Try.ntmps21
    go_wp2_with (first | ((with_reducible refine gate_dst (N := 3) rfl ?_); refine box_event ?hg (N := 3) ?hd (cs := #[.int .i64 a0_0, .int .i64 a0_1, .int .i64 a0_2]) (t := 23) ?hr ?_; (case hd => rfl); (case hg => rfl); (case hr => first | (go_simp; done) | (go_simp; rfl)); intro gb289 hg w10 hbox hb; have n0_ := Aside0.mk (below_step (by repeat (first | (with_reducible first | exact HB.out | apply below_alloc | apply pw_below_drewN | apply below_drew1) | exact HB.out)) hb); have n1_ := Aside0.mk (hbox); have n2_ := Aside0.mk ((by rw [hg]; exact (below_size (by repeat (first | (with_reducible first | exact HB.out | apply below_alloc | apply pw_below_drewN | apply below_drew1) | exact HB.out))) : w.heap.size ≤ gb289)); have n3_ := Aside0.mk ((by rw [hg]; exact (below_size (by repeat (first | (with_reducible first | exact HB.out | apply below_alloc | apply pw_below_drewN | apply below_drew1) | exact HB.out))) : w.heap.size ≤ gb289)); clear HB; have HB := n0_; have BK289 := n1_; have GW289 := n2_; have GE289 := n3_; clear n0_ n1_ n2_ n3_; clear hb hbox hg; have hcz11_0 : w10.cell? ⟨gb289, 0, none⟩ = some (.int .i64 a0_0) := (blk_cell BK289.out 0).trans rfl; have hcz11_1 : w10.cell? ⟨gb289, 1, none⟩ = some (.int .i64 a0_1) := (blk_cell BK289.out 1).trans rfl; have hcz11_2 : w10.cell? ⟨gb289, 2, none⟩ = some (.int .i64 a0_2) := (blk_cell BK289.out 2).trans rfl; have hfz11_0 := blk_frozen BK289.out 0; have hfz11_1 := blk_frozen BK289.out 1; have hfz11_2 := blk_frozen BK289.out 2))
    go_ret
    exact ⟨by first | rfl | (simp [errW_none, errW_some] <;> rfl) | (simp [*, errW_none, errW_some] <;> rfl), by repeat (first | (with_reducible first | exact HB.out | apply below_alloc | apply pw_below_drewN | apply below_drew1 | refine below_set ?_ GE289.out) | exact HB.out)⟩
end Go.Proofs.Ytdpihbhkghjclaa.P
end
section
/- Plain laws of what a clock shows. Conditions: none. -/
namespace Go.Proofs.Ytdpihbhkghjclaa.P
open Go.RowKit Go.Proofs.YtdpihbhkghjclaaW.PrintWords Go.Proofs.YtdpihbhkghjclaaW.PrintLast Go.Proofs.YtdpihbhkghjclaaW.PrintMore
set_option linter.unusedVariables false
set_option linter.unusedSimpArgs false
theorem mul_bd {d t : Int} (h1 : -50 ≤ d) (h2 : d ≤ 50) (ht : 0 ≤ t) : -50 * t ≤ d * t ∧ d * t ≤ 50 * t :=
  ⟨Int.mul_le_mul_of_nonneg_right h1 ht, Int.mul_le_mul_of_nonneg_right h2 ht⟩
theorem mul_df {d x y : Int} (h1 : -50 ≤ d) (h2 : d ≤ 50) (h : x ≤ y) : -50 * (y - x) ≤ d * y - d * x ∧ d * y - d * x ≤ 50 * (y - x) := by
  have := mul_bd h1 h2 (t := y - x) (by omega)
  rw [Int.mul_sub d] at this
  exact this
/-- What a clock shows. -/
def AT (off d t : Int) : Int := t + off + (d * t) / 1000000
def CV (off d : Int) : Prop := -1000000000 ≤ off ∧ off ≤ 1000000000 ∧ -50 ≤ d ∧ d ≤ 50
instance (off d : Int) : Decidable (CV off d) := by unfold CV; exact inferInstance
theorem floor_eq (p : Int) : (if Int.tmod p 1000000 < 0 then Int.tdiv p 1000000 - 1 else Int.tdiv p 1000000) = p / 1000000 := by
  by_cases h : 0 ≤ p
  · rw [Int.tmod_eq_emod_of_nonneg h, Int.tdiv_eq_ediv_of_nonneg h, if_neg (by omega)]
  · obtain ⟨q, rfl⟩ : ∃ q, p = -q := ⟨-p, by omega⟩
    rw [Int.neg_tmod, Int.neg_tdiv, Int.tmod_eq_emod_of_nonneg (by omega), Int.tdiv_eq_ediv_of_nonneg (by omega)]
    split <;> omega
theorem at_eq {off d t : Int} (hv : CV off d) (h0 : 0 ≤ t) (h1 : t ≤ 10000000000000) : clock_clock_at.f off d t = some (AT off d t) := by
  unfold CV at hv
  have hb := mul_bd hv.2.2.1 hv.2.2.2 h0
  have hf := floor_eq (d * t)
  unfold clock_clock_at.f AT
  rw [w64 (x := d * t) (by omega), w64 (x := t + off) (by omega)]
  generalize d * t = p at *
  by_cases h : Int.tmod p 1000000 < 0
  · rw [if_pos h] at hf ⊢
    rw [w64 (x := Int.tdiv p 1000000) (by omega), hf, w64 (x := p / 1000000) (by omega), w64 (by omega)]
  · rw [if_neg h] at hf ⊢
    rw [hf, w64 (x := p / 1000000) (by omega), w64 (by omega)]
theorem cvalid_eq (off d : Int) : clock_Valid.f off d = some (decide (CV off d)) := by
  unfold clock_Valid.f clock_in.f CV
  rw [w64 (x := -1000000000) (by omega), w64 (x := -50) (by omega)]
  by_cases h1 : off ≥ -1000000000 <;> by_cases h2 : off ≤ 1000000000 <;> by_cases h3 : d ≥ -50 <;> by_cases h4 : d ≤ 50 <;> simp [h1, h2, h3, h4] <;> omega
theorem Show_eq (off d t : Int) : clock_Show.f off d t = some (if CV off d ∧ 0 ≤ t ∧ t ≤ 10000000000000 then (AT off d t, 0) else (0, 1)) := by
  unfold clock_Show.f
  rw [cvalid_eq]
  by_cases h1 : CV off d
  · by_cases h2 : t < 0
    · rw [if_neg (show ¬ (CV off d ∧ 0 ≤ t ∧ t ≤ 10000000000000) from fun hh => by omega), decide_eq_true h1]
      simp only [Option.bind_some, if_true]
      rw [if_pos h2]
    · by_cases h3 : t > 10000000000000
      · rw [if_neg (show ¬ (CV off d ∧ 0 ≤ t ∧ t ≤ 10000000000000) from fun hh => by omega), decide_eq_true h1]
        simp only [Option.bind_some, if_true]
        rw [if_neg h2, if_pos h3]
      · rw [if_pos (show CV off d ∧ 0 ≤ t ∧ t ≤ 10000000000000 from ⟨h1, by omega, by omega⟩), decide_eq_true h1]
        simp only [Option.bind_some, if_true]
        rw [if_neg h2, if_neg h3, at_eq h1 (by omega) (by omega)]
        rfl
  · rw [if_neg (show ¬ (CV off d ∧ 0 ≤ t ∧ t ≤ 10000000000000) from fun hh => h1 hh.1), decide_eq_false h1]
    rfl
theorem True_eq (l h a t s : Int) (hb : -9000000000000000000 ≤ t - s ∧ t - s ≤ 9000000000000000000) : slotmeshref08_True.f l h a t s = some (decide (a = s ∧ l ≤ t - s ∧ t - s ≤ h)) := by
  unfold slotmeshref08_True.f
  rw [w64 (x := t - s) (by omega)]
  by_cases h1 : a = s <;> by_cases h2 : t - s ≥ l <;> by_cases h3 : t - s ≤ h <;> simp [h1, h2, h3] <;> omega
/-- What a clock shows lies near the true time, and runs with it. -/
theorem AT_near {off d t : Int} (hv : CV off d) (h0 : 0 ≤ t) (h1 : t ≤ 10000000000000) : -1500000001 ≤ AT off d t - t ∧ AT off d t - t ≤ 1500000001 ∧ -2000000000 ≤ AT off d t ∧ AT off d t ≤ 20000000000000 := by
  unfold CV at hv
  have hb := mul_bd hv.2.2.1 hv.2.2.2 h0
  unfold AT
  generalize d * t = p at *
  omega
theorem AT_mono {off d x y : Int} (hv : CV off d) (h : x ≤ y) : AT off d x ≤ AT off d y := by
  unfold CV at hv
  have hb := mul_df hv.2.2.1 hv.2.2.2 h
  unfold AT
  generalize d * x = p at *
  generalize d * y = q at *
  omega
/-- Growing keeps a span true. -/
theorem AT_grow {off d x y : Int} (hv : CV off d) (h : x ≤ y) : -(MO (AT off d y - AT off d x)) ≤ (y - AT off d y) - (x - AT off d x) ∧ (y - AT off d y) - (x - AT off d x) ≤ MO (AT off d y - AT off d x) := by
  unfold CV at hv
  have hb := mul_df hv.2.2.1 hv.2.2.2 h
  unfold AT MO
  generalize d * x = p at *
  generalize d * y = q at *
  omega
end Go.Proofs.Ytdpihbhkghjclaa.P
end
section
/- Plain laws of the functions of package guard. Conditions: none. -/
namespace Go.Proofs.Ytdpihbhkghjclaa.P
open Go.RowKit Go.Proofs.YtdpihbhkghjclaaW.PrintWords Go.Proofs.YtdpihbhkghjclaaW.PrintLast Go.Proofs.YtdpihbhkghjclaaW.PrintMore
set_option linter.unusedVariables false
set_option linter.unusedSimpArgs false
theorem AT_step {off d t : Int} (hv : CV off d) : 0 ≤ AT off d (t + 1) - AT off d t ∧ AT off d (t + 1) - AT off d t ≤ 2 := by
  unfold CV at hv
  have hb := mul_df hv.2.2.1 hv.2.2.2 (show t ≤ t + 1 by omega)
  unfold AT
  generalize d * t = p at *
  generalize d * (t + 1) = q at *
  omega
/-- The least true time at which a clock shows at least some time, or one behind the last. -/
def LT (off d least r : Int) : Prop := (0 ≤ r ∧ r ≤ 10000000000001) ∧ (∀ t, 0 ≤ t → t < r → AT off d t < least) ∧ (r ≤ 10000000000000 → least ≤ AT off d r)
theorem first_l0 {off d : Int} (hv : CV off d) (least : Int) : ∀ (k : Nat) (low high : Int), 0 ≤ low → low ≤ high → high ≤ 10000000000001 → high - low < 2 ^ k → (∀ t, 0 ≤ t → t < low → AT off d t < least) → (high ≤ 10000000000000 → least ≤ AT off d high) → ∃ r, clock_first.l0 (k + 1) off d low high least = some r ∧ LT off d least r := by
  intro k
  induction k with
  | zero =>
    intro low high h0 h1 h2 h3 h4 h5
    have e : low = high := by simp at h3; omega
    subst e
    refine ⟨low, ?_, ⟨h0, h2⟩, h4, h5⟩
    rw [clock_first.l0, if_neg (by omega)]
  | succ k ih =>
    intro low high h0 h1 h2 h3 h4 h5
    rw [Int.pow_succ] at h3
    by_cases c : low < high
    · rw [clock_first.l0, if_pos c, w64 (x := high - low) (by omega), Int.tdiv_eq_ediv_of_nonneg (by omega), w64 (x := (high - low) / 2) (by omega), w64 (x := low + (high - low) / 2) (by omega)]
      obtain ⟨mid, hm⟩ : ∃ mid, low + (high - low) / 2 = mid := ⟨_, rfl⟩
      rw [hm, at_eq hv (by omega) (by omega)]
      simp only [Option.bind_some]
      by_cases c2 : AT off d mid ≥ least
      · rw [if_pos c2]
        exact ih low mid h0 (by omega) (by omega) (by omega) h4 (fun _ => c2)
      · rw [if_neg c2, w64 (x := mid + 1) (by omega)]
        refine ih (mid + 1) high (by omega) (by omega) h2 (by omega) ?_ h5
        intro t t0 t1
        have := AT_mono hv (show t ≤ mid by omega)
        omega
    · have e : low = high := by omega
      subst e
      refine ⟨low, ?_, ⟨h0, h2⟩, h4, h5⟩
      rw [clock_first.l0, if_neg c]
def FT (off d least : Int) : Int := (clock_first.l0 45 off d 0 10000000000001 least).getD 0
theorem FT_spec {off d : Int} (hv : CV off d) (least : Int) : LT off d least (FT off d least) ∧ ∀ k, clock_first.l0 (k + 45) off d 0 10000000000001 least = some (FT off d least) := by
  obtain ⟨r, hr, hl⟩ := first_l0 hv least 44 0 10000000000001 (by omega) (by omega) (by omega) (by decide) (fun t h0 h1 => by omega) (fun h => by omega)
  have e : FT off d least = r := by unfold FT; rw [hr]; rfl
  rw [e]
  refine ⟨hl, fun k => ?_⟩
  exact at_rounds (g := fun k => clock_first.l0 k off d 0 10000000000001 least) (fun k => clock_first.mono_l0 off d k 0 10000000000001 least) (show 44 + 1 ≤ k + 45 by omega) hr
theorem LT_uniq {off d least r s : Int} (h : LT off d least r) (k : LT off d least s) : r = s := by
  obtain ⟨a1, a2, a3⟩ := h
  obtain ⟨b1, b2, b3⟩ := k
  rcases Int.lt_trichotomy r s with c | c | c
  · have := b2 r a1.1 c
    have := a3 (by omega)
    omega
  · exact c
  · have := a2 s b1.1 c
    have := b3 (by omega)
    omega
theorem FT_eq {off d least r : Int} (hv : CV off d) (h : LT off d least r) : FT off d least = r := LT_uniq (FT_spec hv least).1 h
theorem FT_mono {off d x y : Int} (hv : CV off d) (h : x ≤ y) : FT off d x ≤ FT off d y := by
  obtain ⟨⟨a1, a2, a3⟩, _⟩ := FT_spec hv x
  obtain ⟨⟨b1, b2, b3⟩, _⟩ := FT_spec hv y
  by_cases c : FT off d x ≤ FT off d y
  · exact c
  · have := a2 (FT off d y) b1.1 (by omega)
    have := b3 (by omega)
    omega
/-- At the least time the clock shows the time that was asked, or one more; but at the time 0. -/
theorem FT_shows {off d x : Int} (hv : CV off d) (h0 : 0 < FT off d x) (h1 : FT off d x ≤ 10000000000000) : x ≤ AT off d (FT off d x) ∧ AT off d (FT off d x) ≤ x + 1 := by
  obtain ⟨⟨a1, a2, a3⟩, _⟩ := FT_spec hv x
  refine ⟨a3 h1, ?_⟩
  have hs := AT_step hv (t := FT off d x - 1)
  have hb := a2 (FT off d x - 1) (by omega) (by omega)
  rw [show FT off d x - 1 + 1 = FT off d x by omega] at hs
  omega
theorem When_eq {off d : Int} (hv : CV off d) (k : Nat) (x : Int) (hx : -9000000000000000000 ≤ x ∧ x ≤ 9000000000000000000) : clock_When.f (k + 45) off d x = some (if x < AT off d 0 then (0, 0, 4) else if x > AT off d 10000000000000 then (0, 0, 4) else if FT off d x > FT off d (x + 1) - 1 then (0, 0, 4) else (FT off d x, FT off d (x + 1) - 1, 0)) := by
  unfold clock_When.f
  have hb := (FT_spec hv (x + 1)).1.1
  rw [cvalid_eq, decide_eq_true hv, at_eq hv (by omega) (by omega), at_eq hv (by omega) (by omega), (FT_spec hv x).2, w64 (x := x + 1) (by omega), (FT_spec hv (x + 1)).2]
  simp only [Option.bind_some, if_true]
  rw [w64 (x := FT off d (x + 1) - 1) (by omega)]
  split
  · rfl
  · split
    · rfl
    · split <;> rfl
/-- When a slot begins: the least time, if there is one. -/
theorem begins_eq {off d : Int} (hv : CV off d) (k : Nat) (x : Int) (hx : -8000000000000000000 ≤ x ∧ x ≤ 8000000000000000000) : guard_Send.begins (k + 45) off d x = some (if FT off d x > 10000000000000 then (0, 3) else (FT off d x, 0)) := by
  have n0 := AT_near hv (show (0 : Int) ≤ 0 by omega) (by omega)
  have n1 := AT_near hv (show (0 : Int) ≤ 10000000000000 by omega) (by omega)
  obtain ⟨⟨a1, a2, a3⟩, _⟩ := FT_spec hv x
  obtain ⟨⟨b1, b2, b3⟩, _⟩ := FT_spec hv (x + 1)
  obtain ⟨⟨c1, c2, c3⟩, _⟩ := FT_spec hv (x + 1 + 1)
  unfold guard_Send.begins
  rw [Show_eq, if_pos ⟨hv, by omega, by omega⟩]
  simp only [Option.bind_some, if_true]
  by_cases g1 : x ≤ AT off d 0
  · have e : FT off d x = 0 := FT_eq hv ⟨by omega, fun t h0 h1 => by omega, fun _ => g1⟩
    rw [if_pos g1, e]; rfl
  rw [if_neg g1, When_eq hv k x (by omega), w64 (x := x + 1) (by omega), When_eq hv k (x + 1) (by omega)]
  simp only [Option.bind_some]
  rw [if_neg (show ¬ x < AT off d 0 by omega), if_neg (show ¬ x + 1 < AT off d 0 by omega)]
  by_cases g2 : x > AT off d 10000000000000
  · have e : FT off d x > 10000000000000 := by
      by_cases q : FT off d x ≤ 10000000000000
      · have := a3 q
        have := AT_mono hv q
        omega
      · omega
    rw [if_pos g2, if_pos (show x + 1 > AT off d 10000000000000 by omega), if_pos e]
    rfl
  rw [if_neg g2]
  have e1 : FT off d x ≤ 10000000000000 := by
    by_cases q : FT off d x ≤ 10000000000000
    · exact q
    · have := a2 10000000000000 (by omega) (by omega)
      omega
  have p0 : 0 < FT off d x := by
    by_cases q : FT off d x = 0
    · have := a3 e1
      rw [q] at this
      omega
    · omega
  have sh := FT_shows hv p0 e1
  rw [if_neg (show ¬ FT off d x > 10000000000000 by omega)]
  have m1 := FT_mono hv (show x ≤ x + 1 by omega)
  by_cases g3 : FT off d x > FT off d (x + 1) - 1
  · have e2 : FT off d (x + 1) = FT off d x := by omega
    rw [if_pos g3, if_pos rfl]
    have h3 := b3 (by omega)
    rw [e2] at h3
    have h4 := AT_mono hv e1
    rw [if_neg (show ¬ x + 1 > AT off d 10000000000000 by omega), e2]
    have e3 : ¬ FT off d x > FT off d (x + 1 + 1) - 1 := by
      intro q
      have := c3 (by omega)
      have := AT_mono hv (show FT off d (x + 1 + 1) ≤ FT off d x by omega)
      omega
    rw [if_neg e3]
    rfl
  · rw [if_neg g3]
    rfl
/-- What the clock has to show when a slot begins. -/
def OW (l h ho asn : Int) : Int := if ho > 0 then asn * 10000 - (l + h) / 2 else asn * 10000
theorem own_eq (sy : Bool) (l h a ho so he off d asn : Int) (hs : SV true l h a ho so he) (hn : 0 ≤ asn ∧ asn ≤ 1000000000) : guard_node_ownTime.f sy l h a ho so he off d asn = some (OW l h ho asn) := by
  unfold guard_node_ownTime.f OW
  rw [w64 (x := asn * 10000) (by omega)]
  by_cases c : ho > 0
  · have hv : VP l h a := by
      unfold SV at hs
      rw [if_pos rfl] at hs
      rcases hs.2 with q | q
      · omega
      · exact q.2.2
    unfold VP at hv
    rw [if_pos c, if_pos c, w64 (x := l + h) (by omega), w64 (by omega)]
  · rw [if_neg c, if_neg c]
/-- When a slot is begun, and the bound then. -/
def SL (sy : Bool) (l h a ho so he off d asn : Int) : Int × Int × Int :=
  if CV off d ∧ (0 ≤ asn ∧ asn < 1000000000) ∧ SV sy l h a ho so he then
    (if sy = true then
      (if (BO sy l h a ho so he (OW l h ho asn)).2 = 0 then (if FT off d (OW l h ho asn) > 10000000000000 then (0, 0, 3) else (FT off d (OW l h ho asn) - asn * 10000, (BO sy l h a ho so he (OW l h ho asn)).1, 0))
       else (0, 0, (BO sy l h a ho so he (OW l h ho asn)).2))
     else (0, 0, 16))
  else (0, 0, 1)
theorem hear_zero (sy : Bool) (l h a ho so he : Int) : (HE sy l h a ho so he 0 0 0 0 0).2.2.2.2.2.2.2 = 1 ↔ ¬ SV sy l h a ho so he := by
  have hd : HD 0 0 0 = (0, 0, 0, 0) := by unfold HD; rw [if_pos (by omega)]; rfl
  unfold HE
  rw [hd]
  constructor
  · intro e hs
    rw [if_pos ⟨hs, rfl, by omega, by omega⟩] at e
    split at e
    · rename_i ht
      split at e
      · rename_i hy
        have hv : VP l h a := by
          subst hy
          unfold SV at hs
          unfold TK at ht
          rw [if_pos rfl] at hs
          rcases hs.2 with q | q
          · exact absurd ⟨rfl, q⟩ ht.1
          · exact q.2.2
        have hz : VP 0 0 0 := by unfold VP; omega
        have hm : (M l h a 0 0 0).2.2.2 ≠ 1 := by
          unfold M
          rw [if_pos ⟨hv, hz⟩]
          split
          · split <;> simp
          · simp
        split at e
        · exact absurd e (by simp)
        · exact hm e
      · exact absurd e (by simp)
    · exact absurd e (by simp)
  · intro hs
    rw [if_neg (fun q => hs q.1)]
theorem OW_bound {l h a ho so he asn : Int} (hs : SV true l h a ho so he) (hn : 0 ≤ asn ∧ asn ≤ 1000000000) : -100000000000000 ≤ OW l h ho asn ∧ OW l h ho asn ≤ 100000000000000 := by
  unfold OW
  by_cases c : ho > 0
  · have hv : VP l h a := by
      unfold SV at hs
      rw [if_pos rfl] at hs
      rcases hs.2 with q | q
      · omega
      · exact q.2.2
    unfold VP at hv
    rw [if_pos c]
    omega
  · rw [if_neg c]; omega
theorem slot_eq (k : Nat) (sy : Bool) (l h a ho so he off d asn : Int) : guard_Send.slot (k + 51) sy l h a ho so he off d asn = some (SL sy l h a ho so he off d asn) := by
  unfold guard_Send.slot SL
  rw [cvalid_eq, show k + 51 = (k + 45) + 6 from rfl, Hear_eq]
  by_cases c1 : CV off d
  rotate_left
  · rw [decide_eq_false c1, if_neg (show ¬ (CV off d ∧ (0 ≤ asn ∧ asn < 1000000000) ∧ SV sy l h a ho so he) from fun q => c1 q.1)]; rfl
  rw [decide_eq_true c1]
  simp only [Option.bind_some, if_true]
  by_cases c2 : asn < 0
  · rw [if_pos c2, if_neg (show ¬ (CV off d ∧ (0 ≤ asn ∧ asn < 1000000000) ∧ SV sy l h a ho so he) from fun q => by omega)]
  rw [if_neg c2]
  by_cases c3 : asn ≥ 1000000000
  · rw [if_pos c3, if_neg (show ¬ (CV off d ∧ (0 ≤ asn ∧ asn < 1000000000) ∧ SV sy l h a ho so he) from fun q => by omega)]
  rw [if_neg c3]
  by_cases c4 : SV sy l h a ho so he
  rotate_left
  · rw [if_pos ((hear_zero sy l h a ho so he).2 c4), if_neg (show ¬ (CV off d ∧ (0 ≤ asn ∧ asn < 1000000000) ∧ SV sy l h a ho so he) from fun q => c4 q.2.2)]
  rw [if_neg (fun q => (hear_zero sy l h a ho so he).1 q c4), if_pos (show (CV off d ∧ (0 ≤ asn ∧ asn < 1000000000) ∧ SV sy l h a ho so he) from ⟨c1, ⟨by omega, by omega⟩, c4⟩)]
  cases sy
  · simp
  · simp only [if_true]
    rw [own_eq _ _ _ _ _ _ _ _ _ _ c4 (by omega)]
    simp only [Option.bind_some]
    rw [Bound_eq]
    simp only [Option.bind_some]
    have hw := OW_bound c4 (show 0 ≤ asn ∧ asn ≤ 1000000000 by omega)
    by_cases c5 : (BO true l h a ho so he (OW l h ho asn)).2 = 0
    · rw [if_pos c5, if_pos c5, show k + 45 + 6 = (k + 6) + 45 from rfl, begins_eq c1 (k + 6) _ (by omega)]
      simp only [Option.bind_some]
      have hf := (FT_spec c1 (OW l h ho asn)).1.1
      by_cases c6 : FT off d (OW l h ho asn) > 10000000000000
      · rw [if_pos c6, if_pos c6]; rfl
      · rw [if_neg c6, if_neg c6]
        simp only [if_true]
        rw [w64 (x := asn * 10000) (by omega), w64 (by omega)]
    · rw [if_neg c5, if_neg c5]
theorem Send_eq (k : Nat) (sy : Bool) (l h a ho so he off d asn : Int) : guard_Send.f (k + 51) sy l h a ho so he off d asn = some (if (SL sy l h a ho so he off d asn).2.2 = 0 then ((SL sy l h a ho so he off d asn).1, 0) else (0, (SL sy l h a ho so he off d asn).2.2)) := by
  unfold guard_Send.f
  rw [slot_eq]
  simp only [Option.bind_some]
  split <;> rfl
/-- What a begun slot says of the state. -/
theorem SL_ok {sy : Bool} {l h a ho so he off d asn : Int} (e : (SL sy l h a ho so he off d asn).2.2 = 0) : CV off d ∧ (0 ≤ asn ∧ asn < 1000000000) ∧ SV true l h a ho so he ∧ sy = true ∧ (BO true l h a ho so he (OW l h ho asn)).2 = 0 ∧ FT off d (OW l h ho asn) ≤ 10000000000000 ∧
    SL sy l h a ho so he off d asn = (FT off d (OW l h ho asn) - asn * 10000, (BO true l h a ho so he (OW l h ho asn)).1, 0) := by
  unfold SL at e ⊢
  split at e
  · rename_i c1
    rw [if_pos c1]
    split at e
    · rename_i c2
      rw [if_pos c2]
      subst c2
      split at e
      · rename_i c3
        rw [if_pos c3]
        split at e
        · exact absurd e (by simp)
        · rename_i c4
          rw [if_neg c4]
          exact ⟨c1.1, c1.2.1, c1.2.2, rfl, c3, by omega, rfl⟩
      · rename_i c3
        exact absurd e c3
    · exact absurd e (by simp)
  · exact absurd e (by simp)
theorem BO_range {sy : Bool} {l h a ho so he now : Int} : 0 ≤ (BO sy l h a ho so he now).1 ∧ (BO sy l h a ho so he now).1 ≤ 2000 := by
  unfold BO
  split
  · split
    · split
      · simp
      · split
        · rename_i e
          rcases G_form l h a now with ⟨g, _, _, _, hv⟩ | g | ⟨g, _⟩
          · rw [g]
            unfold VP at hv
            dsimp only
            split
            · simp
            · dsimp only; omega
          · rw [g] at e; exact absurd e (by simp)
          · rw [g] at e; exact absurd e (by simp)
        · simp
    · simp
  · simp
theorem Listen_eq (k : Nat) (sy : Bool) (l h a ho so he off d asn : Int) : guard_Listen.f (k + 51) sy l h a ho so he off d asn = some (if (SL sy l h a ho so he off d asn).2.2 = 0 then ((SL sy l h a ho so he off d asn).1 - (2004 + (SL sy l h a ho so he off d asn).2.1), (SL sy l h a ho so he off d asn).1 + (2004 + (SL sy l h a ho so he off d asn).2.1), 0) else (0, 0, (SL sy l h a ho so he off d asn).2.2)) := by
  unfold guard_Listen.f
  rw [slot_eq]
  simp only [Option.bind_some]
  by_cases c : (SL sy l h a ho so he off d asn).2.2 = 0
  · obtain ⟨c1, c2, c3, c4, c5, c6, e⟩ := SL_ok c
    have hb := BO_range (sy := true) (l := l) (h := h) (a := a) (ho := ho) (so := so) (he := he) (now := OW l h ho asn)
    have hf := (FT_spec c1 (OW l h ho asn)).1.1
    rw [if_pos c, if_pos c, e]
    dsimp only
    rw [w64 (x := 2004 + (BO true l h a ho so he (OW l h ho asn)).1) (by omega), w64 (by omega), w64 (by omega)]
  · rw [if_neg c, if_neg c]
end Go.Proofs.Ytdpihbhkghjclaa.P
end
section
/- Struct parameters of the laws, laid open: the values' own cells. Conditions: none. -/
namespace Go.Proofs.Ytdpihbhkghjclaa
open Go.ChangeShapes Go.WideShapes Go.RowKit
set_option linter.unusedVariables false
set_option maxRecDepth 100000
theorem cells23 {H : Type} {enc : TypeId × Value → H} {w : World} {base : Nat} {spare : Nat → Bool} {held : Bool} {fuel : Nat} {cs : List Value} {x : DataW H × List MemPlace} (h : DataW.trod enc Try.prog w base spare held fuel 23 cs = some x) :
    ∃ (a0 : Int) (a1 : Int) (a2 : Int), cs = [.int .i64 a0, .int .i64 a1, .int .i64 a2] ∧ (Lit.int .i64 a0).wf = true ∧ (Lit.int .i64 a1).wf = true ∧ (Lit.int .i64 a2).wf = true := by
  obtain ⟨xs, n, _, _, hl, hlen, hf⟩ := DataW.trod_struct Try.underlying23 h
  rw [show Try.prog.cellsOf 23 = 3 from by kernel_rfl] at hl
  match cs, hl, xs, hlen with
  | [c0, c1, c2], _, [y0, y1, y2], _ =>
    have h0 : DataW.trod enc Try.prog w base spare held n 3 (([c0, c1, c2].drop 0).take (Try.prog.cellsOf 3)) = some y0 := hf 0 _ rfl
    rw [show Try.prog.cellsOf 3 = 1 from by kernel_rfl] at h0
    replace h0 : DataW.trod enc Try.prog w base spare held n 3 [c0] = some y0 := h0
    obtain ⟨a0, e0, _, w0⟩ := DataW.trod_int Try.underlying3 h0
    simp only [List.cons.injEq, and_true] at e0
    subst e0
    have h1 : DataW.trod enc Try.prog w base spare held n 3 (([(.int .i64 a0), c1, c2].drop 1).take (Try.prog.cellsOf 3)) = some y1 := hf 1 _ rfl
    rw [show Try.prog.cellsOf 3 = 1 from by kernel_rfl] at h1
    replace h1 : DataW.trod enc Try.prog w base spare held n 3 [c1] = some y1 := h1
    obtain ⟨a1, e1, _, w1⟩ := DataW.trod_int Try.underlying3 h1
    simp only [List.cons.injEq, and_true] at e1
    subst e1
    have h2 : DataW.trod enc Try.prog w base spare held n 3 (([(.int .i64 a0), (.int .i64 a1), c2].drop 2).take (Try.prog.cellsOf 3)) = some y2 := hf 2 _ rfl
    rw [show Try.prog.cellsOf 3 = 1 from by kernel_rfl] at h2
    replace h2 : DataW.trod enc Try.prog w base spare held n 3 [c2] = some y2 := h2
    obtain ⟨a2, e2, _, w2⟩ := DataW.trod_int Try.underlying3 h2
    simp only [List.cons.injEq, and_true] at e2
    subst e2
    exact ⟨a0, a1, a2, rfl, w0, w1, w2⟩
theorem cells25 {H : Type} {enc : TypeId × Value → H} {w : World} {base : Nat} {spare : Nat → Bool} {held : Bool} {fuel : Nat} {cs : List Value} {x : DataW H × List MemPlace} (h : DataW.trod enc Try.prog w base spare held fuel 25 cs = some x) :
    ∃ (a0 : Bool) (a1 : Int) (a2 : Int) (a3 : Int) (a4 : Int) (a5 : Int) (a6 : Int), cs = [.bool a0, .int .i64 a1, .int .i64 a2, .int .i64 a3, .int .i64 a4, .int .i64 a5, .int .i64 a6] ∧ (Lit.int .i64 a1).wf = true ∧ (Lit.int .i64 a2).wf = true ∧ (Lit.int .i64 a3).wf = true ∧ (Lit.int .i64 a4).wf = true ∧ (Lit.int .i64 a5).wf = true ∧ (Lit.int .i64 a6).wf = true := by
  obtain ⟨xs, n, _, _, hl, hlen, hf⟩ := DataW.trod_struct Try.underlying25 h
  rw [show Try.prog.cellsOf 25 = 7 from by kernel_rfl] at hl
  match cs, hl, xs, hlen with
  | [c0, c1, c2, c3, c4, c5, c6], _, [y0, y1, y2, y3, y4], _ =>
    have h0 : DataW.trod enc Try.prog w base spare held n 4 (([c0, c1, c2, c3, c4, c5, c6].drop 0).take (Try.prog.cellsOf 4)) = some y0 := hf 0 _ rfl
    rw [show Try.prog.cellsOf 4 = 1 from by kernel_rfl] at h0
    replace h0 : DataW.trod enc Try.prog w base spare held n 4 [c0] = some y0 := h0
    obtain ⟨a0, e0, _⟩ := DataW.trod_bool Try.underlying4 h0
    simp only [List.cons.injEq, and_true] at e0
    subst e0
    have h1 : DataW.trod enc Try.prog w base spare held n 23 (([(.bool a0), c1, c2, c3, c4, c5, c6].drop 1).take (Try.prog.cellsOf 23)) = some y1 := hf 1 _ rfl
    rw [show Try.prog.cellsOf 23 = 3 from by kernel_rfl] at h1
    replace h1 : DataW.trod enc Try.prog w base spare held n 23 [c1, c2, c3] = some y1 := h1
    obtain ⟨a1, a2, a3, e1, w1, w2, w3⟩ := cells23 h1
    simp only [List.cons.injEq, and_true] at e1
    obtain ⟨rfl, rfl, rfl⟩ := e1
    have h2 : DataW.trod enc Try.prog w base spare held n 3 (([(.bool a0), (.int .i64 a1), (.int .i64 a2), (.int .i64 a3), c4, c5, c6].drop 4).take (Try.prog.cellsOf 3)) = some y2 := hf 2 _ rfl
    rw [show Try.prog.cellsOf 3 = 1 from by kernel_rfl] at h2
    replace h2 : DataW.trod enc Try.prog w base spare held n 3 [c4] = some y2 := h2
    obtain ⟨a4, e2, _, w4⟩ := DataW.trod_int Try.underlying3 h2
    simp only [List.cons.injEq, and_true] at e2
    subst e2
    have h3 : DataW.trod enc Try.prog w base spare held n 3 (([(.bool a0), (.int .i64 a1), (.int .i64 a2), (.int .i64 a3), (.int .i64 a4), c5, c6].drop 5).take (Try.prog.cellsOf 3)) = some y3 := hf 3 _ rfl
    rw [show Try.prog.cellsOf 3 = 1 from by kernel_rfl] at h3
    replace h3 : DataW.trod enc Try.prog w base spare held n 3 [c5] = some y3 := h3
    obtain ⟨a5, e3, _, w5⟩ := DataW.trod_int Try.underlying3 h3
    simp only [List.cons.injEq, and_true] at e3
    subst e3
    have h4 : DataW.trod enc Try.prog w base spare held n 3 (([(.bool a0), (.int .i64 a1), (.int .i64 a2), (.int .i64 a3), (.int .i64 a4), (.int .i64 a5), c6].drop 6).take (Try.prog.cellsOf 3)) = some y4 := hf 4 _ rfl
    rw [show Try.prog.cellsOf 3 = 1 from by kernel_rfl] at h4
    replace h4 : DataW.trod enc Try.prog w base spare held n 3 [c6] = some y4 := h4
    obtain ⟨a6, e4, _, w6⟩ := DataW.trod_int Try.underlying3 h4
    simp only [List.cons.injEq, and_true] at e4
    subst e4
    exact ⟨a0, a1, a2, a3, a4, a5, a6, rfl, w1, w2, w3, w4, w5, w6⟩
theorem open25 {H : Type} {enc : TypeId × Value → H} {w : World} {base b0 : Nat} {spare : Nat → Bool} {held : Bool} {r : Reach} {v : Value} {d : DataW H} {p : List MemPlace} (hv : Value.okWide Try.prog w r b0 25 v) (h : DataW.Trod enc Try.prog w base spare held 25 v d p) :
    ∃ (a0 : Bool) (a1 : Int) (a2 : Int) (a3 : Int) (a4 : Int) (a5 : Int) (a6 : Int), v = .agg #[.bool a0, .int .i64 a1, .int .i64 a2, .int .i64 a3, .int .i64 a4, .int .i64 a5, .int .i64 a6] ∧ (Lit.int .i64 a1).wf = true ∧ (Lit.int .i64 a2).wf = true ∧ (Lit.int .i64 a3).wf = true ∧ (Lit.int .i64 a4).wf = true ∧ (Lit.int .i64 a5).wf = true ∧ (Lit.int .i64 a6).wf = true := by
  obtain ⟨cs, rfl, _⟩ := okWide_struct Try.underlying25 hv
  obtain ⟨fuel, hf⟩ := h
  obtain ⟨a0, a1, a2, a3, a4, a5, a6, e, hw⟩ := cells25 hf
  obtain ⟨l⟩ := cs
  replace e : l = [.bool a0, .int .i64 a1, .int .i64 a2, .int .i64 a3, .int .i64 a4, .int .i64 a5, .int .i64 a6] := by simpa [Value.cells] using e
  subst e
  exact ⟨a0, a1, a2, a3, a4, a5, a6, rfl, hw⟩
theorem cells27 {H : Type} {enc : TypeId × Value → H} {w : World} {base : Nat} {spare : Nat → Bool} {held : Bool} {fuel : Nat} {cs : List Value} {x : DataW H × List MemPlace} (h : DataW.trod enc Try.prog w base spare held fuel 27 cs = some x) :
    ∃ (a0 : Int) (a1 : Int), cs = [.int .i64 a0, .int .i64 a1] ∧ (Lit.int .i64 a0).wf = true ∧ (Lit.int .i64 a1).wf = true := by
  obtain ⟨xs, n, _, _, hl, hlen, hf⟩ := DataW.trod_struct Try.underlying27 h
  rw [show Try.prog.cellsOf 27 = 2 from by kernel_rfl] at hl
  match cs, hl, xs, hlen with
  | [c0, c1], _, [y0, y1], _ =>
    have h0 : DataW.trod enc Try.prog w base spare held n 3 (([c0, c1].drop 0).take (Try.prog.cellsOf 3)) = some y0 := hf 0 _ rfl
    rw [show Try.prog.cellsOf 3 = 1 from by kernel_rfl] at h0
    replace h0 : DataW.trod enc Try.prog w base spare held n 3 [c0] = some y0 := h0
    obtain ⟨a0, e0, _, w0⟩ := DataW.trod_int Try.underlying3 h0
    simp only [List.cons.injEq, and_true] at e0
    subst e0
    have h1 : DataW.trod enc Try.prog w base spare held n 3 (([(.int .i64 a0), c1].drop 1).take (Try.prog.cellsOf 3)) = some y1 := hf 1 _ rfl
    rw [show Try.prog.cellsOf 3 = 1 from by kernel_rfl] at h1
    replace h1 : DataW.trod enc Try.prog w base spare held n 3 [c1] = some y1 := h1
    obtain ⟨a1, e1, _, w1⟩ := DataW.trod_int Try.underlying3 h1
    simp only [List.cons.injEq, and_true] at e1
    subst e1
    exact ⟨a0, a1, rfl, w0, w1⟩
theorem open27 {H : Type} {enc : TypeId × Value → H} {w : World} {base b0 : Nat} {spare : Nat → Bool} {held : Bool} {r : Reach} {v : Value} {d : DataW H} {p : List MemPlace} (hv : Value.okWide Try.prog w r b0 27 v) (h : DataW.Trod enc Try.prog w base spare held 27 v d p) :
    ∃ (a0 : Int) (a1 : Int), v = .agg #[.int .i64 a0, .int .i64 a1] ∧ (Lit.int .i64 a0).wf = true ∧ (Lit.int .i64 a1).wf = true := by
  obtain ⟨cs, rfl, _⟩ := okWide_struct Try.underlying27 hv
  obtain ⟨fuel, hf⟩ := h
  obtain ⟨a0, a1, e, hw⟩ := cells27 hf
  obtain ⟨l⟩ := cs
  replace e : l = [.int .i64 a0, .int .i64 a1] := by simpa [Value.cells] using e
  subst e
  exact ⟨a0, a1, rfl, hw⟩
theorem cells55 {H : Type} {enc : TypeId × Value → H} {w : World} {base : Nat} {spare : Nat → Bool} {held : Bool} {fuel : Nat} {cs : List Value} {x : DataW H × List MemPlace} (h : DataW.trod enc Try.prog w base spare held fuel 55 cs = some x) :
    ∃ (a0 : Int) (a1 : Int), cs = [.int .i64 a0, .int .i64 a1] ∧ (Lit.int .i64 a0).wf = true ∧ (Lit.int .i64 a1).wf = true := by
  obtain ⟨xs, n, _, _, hl, hlen, hf⟩ := DataW.trod_struct Try.underlying55 h
  rw [show Try.prog.cellsOf 55 = 2 from by kernel_rfl] at hl
  match cs, hl, xs, hlen with
  | [c0, c1], _, [y0, y1], _ =>
    have h0 : DataW.trod enc Try.prog w base spare held n 3 (([c0, c1].drop 0).take (Try.prog.cellsOf 3)) = some y0 := hf 0 _ rfl
    rw [show Try.prog.cellsOf 3 = 1 from by kernel_rfl] at h0
    replace h0 : DataW.trod enc Try.prog w base spare held n 3 [c0] = some y0 := h0
    obtain ⟨a0, e0, _, w0⟩ := DataW.trod_int Try.underlying3 h0
    simp only [List.cons.injEq, and_true] at e0
    subst e0
    have h1 : DataW.trod enc Try.prog w base spare held n 3 (([(.int .i64 a0), c1].drop 1).take (Try.prog.cellsOf 3)) = some y1 := hf 1 _ rfl
    rw [show Try.prog.cellsOf 3 = 1 from by kernel_rfl] at h1
    replace h1 : DataW.trod enc Try.prog w base spare held n 3 [c1] = some y1 := h1
    obtain ⟨a1, e1, _, w1⟩ := DataW.trod_int Try.underlying3 h1
    simp only [List.cons.injEq, and_true] at e1
    subst e1
    exact ⟨a0, a1, rfl, w0, w1⟩
theorem open55 {H : Type} {enc : TypeId × Value → H} {w : World} {base b0 : Nat} {spare : Nat → Bool} {held : Bool} {r : Reach} {v : Value} {d : DataW H} {p : List MemPlace} (hv : Value.okWide Try.prog w r b0 55 v) (h : DataW.Trod enc Try.prog w base spare held 55 v d p) :
    ∃ (a0 : Int) (a1 : Int), v = .agg #[.int .i64 a0, .int .i64 a1] ∧ (Lit.int .i64 a0).wf = true ∧ (Lit.int .i64 a1).wf = true := by
  obtain ⟨cs, rfl, _⟩ := okWide_struct Try.underlying55 hv
  obtain ⟨fuel, hf⟩ := h
  obtain ⟨a0, a1, e, hw⟩ := cells55 hf
  obtain ⟨l⟩ := cs
  replace e : l = [.int .i64 a0, .int .i64 a1] := by simpa [Value.cells] using e
  subst e
  exact ⟨a0, a1, rfl, hw⟩
end Go.Proofs.Ytdpihbhkghjclaa
end
