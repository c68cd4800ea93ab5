/- A claim's own texts, laid together by wip/zip.py without what the claim does not use. Conditions: none. -/
import Derived.Test.YtkbfhonoamgjgaaZupx0
section
/- The Go functions of this claim as Lean functions, and the proofs that their calls answer so: written by wip/myprint.py over the kit's printer, hand-proved contracts laid in. Conditions: none. -/
namespace Go.Proofs.Ytkbfhonoamgjgaa.P
open Go.RowKit Go.Proofs.YtkbfhonoamgjgaaW.PrintWords Go.Proofs.YtkbfhonoamgjgaaW.PrintLast Go.Proofs.YtkbfhonoamgjgaaW.PrintMore
attribute [local go_sem] max2_int min2_int max_two min_two max_three min_three max_four min_four   -- for this text's walks alone
set_option linter.unusedVariables false
set_option linter.unusedSimpArgs false
/-! ### clock_clock_at: function 42 -/
def clock_clock_at.f (a0_0 : Int) (a0_1 : Int) (a1 : Int) : Option (Int) := if (Int.tmod (wrap64 (a0_1 * a1)) 1000000) < 0 then (some (wrap64 ((wrap64 (a1 + a0_0)) + (wrap64 ((wrap64 (Int.tdiv (wrap64 (a0_1 * a1)) 1000000)) - 1))))) else (some (wrap64 ((wrap64 (a1 + a0_0)) + (wrap64 (Int.tdiv (wrap64 (a0_1 * a1)) 1000000)))))
set_option maxHeartbeats 8000000 in
set_option maxRecDepth 100000 in
theorem clock_clock_at.calls (a0_0 : Int) (a0_1 : Int) (a1 : Int) (r : Int) (w : World) (h : clock_clock_at.f a0_0 a0_1 a1 = some r) :
    Calls Try.prog 42 #[.agg #[.int .i64 a0_0, .int .i64 a0_1], .int .i64 a1] w fun e w' => e = .returned (.int .i64 r) ∧ Below w.heap.size w w' := by
  have hu66 := Try.underlying66
  have HB := Aside0.mk (Below.refl w.heap.size w)
  have H : (if (Int.tmod (wrap64 (a0_1 * a1)) 1000000) < 0 then (some (wrap64 ((wrap64 (a1 + a0_0)) + (wrap64 ((wrap64 (Int.tdiv (wrap64 (a0_1 * a1)) 1000000)) - 1))))) else (some (wrap64 ((wrap64 (a1 + a0_0)) + (wrap64 (Int.tdiv (wrap64 (a0_1 * a1)) 1000000)))))) = some r := h
  clear h
  by_cases c3 : (Int.tmod (wrap64 (a0_1 * a1)) 1000000) < 0
  · rw [if_pos c3] at H
    have c3b0 : decide ((Int.tmod (wrap64 (a0_1 * a1)) 1000000) < 0) = true := decide_eq_true c3
    clear c3
    obtain rfl := Option.some.inj H
    go_enter Try.func42, Try.ntmps42
    go_wp2_with (first | ((with_reducible refine gate_dst (N := 2) rfl ?_); refine box_event ?hg (N := 2) ?hd (cs := #[.int .i64 a0_0, .int .i64 a0_1]) (t := 66) ?hr ?_; (case hd => rfl); (case hg => rfl); (case hr => first | (go_simp; done) | (go_simp; rfl)); intro gb530 hg w4 hbox hb; have n0_ := Aside0.mk (below_step (by repeat (first | (with_reducible first | exact HB.out | apply below_alloc | apply pw_below_drewN | apply below_drew1) | exact HB.out)) hb); have n1_ := Aside0.mk (hbox); have n2_ := Aside0.mk ((by rw [hg]; exact (below_size (by repeat (first | (with_reducible first | exact HB.out | apply below_alloc | apply pw_below_drewN | apply below_drew1) | exact HB.out))) : w.heap.size ≤ gb530)); have n3_ := Aside0.mk ((by rw [hg]; exact (below_size (by repeat (first | (with_reducible first | exact HB.out | apply below_alloc | apply pw_below_drewN | apply below_drew1) | exact HB.out))) : w.heap.size ≤ gb530)); clear HB; have HB := n0_; have BK530 := n1_; have GW530 := n2_; have GE530 := n3_; clear n0_ n1_ n2_ n3_; clear hb hbox hg; have hcz5_0 : w4.cell? ⟨gb530, 0, none⟩ = some (.int .i64 a0_0) := (blk_cell BK530.out 0).trans rfl; have hcz5_1 : w4.cell? ⟨gb530, 1, none⟩ = some (.int .i64 a0_1) := (blk_cell BK530.out 1).trans rfl; have hfz5_0 := blk_frozen BK530.out 0; have hfz5_1 := blk_frozen BK530.out 1))
    go_ret
    exact ⟨by first | rfl | (simp [errW_none, errW_some] <;> rfl) | (simp [*, errW_none, errW_some] <;> rfl), by repeat (first | (with_reducible first | exact HB.out | apply below_alloc | apply pw_below_drewN | apply below_drew1 | refine below_set ?_ GE530.out) | exact HB.out)⟩
  · rw [if_neg c3] at H
    have c3b0 : decide ((Int.tmod (wrap64 (a0_1 * a1)) 1000000) < 0) = false := decide_eq_false c3
    clear c3
    obtain rfl := Option.some.inj H
    go_enter Try.func42, Try.ntmps42
    go_wp2_with (first | ((with_reducible refine gate_dst (N := 2) rfl ?_); refine box_event ?hg (N := 2) ?hd (cs := #[.int .i64 a0_0, .int .i64 a0_1]) (t := 66) ?hr ?_; (case hd => rfl); (case hg => rfl); (case hr => first | (go_simp; done) | (go_simp; rfl)); intro gb530 hg w6 hbox hb; have n0_ := Aside0.mk (below_step (by repeat (first | (with_reducible first | exact HB.out | apply below_alloc | apply pw_below_drewN | apply below_drew1) | exact HB.out)) hb); have n1_ := Aside0.mk (hbox); have n2_ := Aside0.mk ((by rw [hg]; exact (below_size (by repeat (first | (with_reducible first | exact HB.out | apply below_alloc | apply pw_below_drewN | apply below_drew1) | exact HB.out))) : w.heap.size ≤ gb530)); have n3_ := Aside0.mk ((by rw [hg]; exact (below_size (by repeat (first | (with_reducible first | exact HB.out | apply below_alloc | apply pw_below_drewN | apply below_drew1) | exact HB.out))) : w.heap.size ≤ gb530)); clear HB; have HB := n0_; have BK530 := n1_; have GW530 := n2_; have GE530 := n3_; clear n0_ n1_ n2_ n3_; clear hb hbox hg; have hcz7_0 : w6.cell? ⟨gb530, 0, none⟩ = some (.int .i64 a0_0) := (blk_cell BK530.out 0).trans rfl; have hcz7_1 : w6.cell? ⟨gb530, 1, none⟩ = some (.int .i64 a0_1) := (blk_cell BK530.out 1).trans rfl; have hfz7_0 := blk_frozen BK530.out 0; have hfz7_1 := blk_frozen BK530.out 1))
    go_ret
    exact ⟨by first | rfl | (simp [errW_none, errW_some] <;> rfl) | (simp [*, errW_none, errW_some] <;> rfl), by repeat (first | (with_reducible first | exact HB.out | apply below_alloc | apply pw_below_drewN | apply below_drew1 | refine below_set ?_ GE530.out) | exact HB.out)⟩
end Go.Proofs.Ytkbfhonoamgjgaa.P
end
