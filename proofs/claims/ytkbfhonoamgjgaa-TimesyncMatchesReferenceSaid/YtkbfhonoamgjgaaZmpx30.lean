/- A claim's own texts, laid together by wip/zip.py without what the claim does not use. Conditions: none. -/
import Derived.Test.YtkbfhonoamgjgaaZmpx0
section
/- The Go functions of this claim as Lean functions, and the proofs that their calls answer so: written by wip/myprint.py over the kit's printer, hand-proved contracts laid in. Conditions: none. -/
namespace Go.Proofs.Ytkbfhonoamgjgaa.P
open Go.RowKit Go.Proofs.YtkbfhonoamgjgaaW.PrintWords Go.Proofs.YtkbfhonoamgjgaaW.PrintLast Go.Proofs.YtkbfhonoamgjgaaW.PrintMore
attribute [local go_sem] max2_int min2_int max_two min_two max_three min_three max_four min_four   -- for this text's walks alone
set_option linter.unusedVariables false
set_option linter.unusedSimpArgs false
/-! ### R9_Half: function 37 -/
def R9_Half.f (a0_0 : Int) (a0_1 : Int) (a0_2 : Int) : Option (Int) := some (wrap64 (Int.tdiv (wrap64 ((wrap64 (a0_1 - a0_0)) + 1)) 2))
set_option maxHeartbeats 8000000 in
set_option maxRecDepth 100000 in
theorem R9_Half.calls (a0_0 : Int) (a0_1 : Int) (a0_2 : Int) (r : Int) (w : World) (h : R9_Half.f a0_0 a0_1 a0_2 = some r) :
    Calls Try.prog 37 #[.agg #[.int .i64 a0_0, .int .i64 a0_1, .int .i64 a0_2]] w fun e w' => e = .returned (.int .i64 r) ∧ Below w.heap.size w w' := by
  have hu23 := Try.underlying23
  have HB := Aside0.mk (Below.refl w.heap.size w)
  have H : (some (wrap64 (Int.tdiv (wrap64 ((wrap64 (a0_1 - a0_0)) + 1)) 2))) = some r := h
  clear h
  obtain rfl := Option.some.inj H
  go_enter Try.func37, Try.ntmps37
  go_wp2_with (first | ((with_reducible refine zr (N := 1) rfl ?_); refine zq ?hg (N := 1) ?hd (cs := #[.int .i64 a0_0, .int .i64 a0_1, .int .i64 a0_2]) (t := 23) ?hr ?_; (case hd => rfl); (case hg => rfl); (case hr => first | (go_simp; done) | (go_simp; rfl)); intro gb295 hg w2 hbox hb; have n0_ := Aside0.mk (zk (by repeat (first | (with_reducible first | exact HB.out | apply zf | apply zc | apply zi) | exact HB.out)) hb); have n1_ := Aside0.mk (hbox); have n2_ := Aside0.mk ((by rw [hg]; exact (zl (by repeat (first | (with_reducible first | exact HB.out | apply zf | apply zc | apply zi) | exact HB.out))) : w.heap.size ≤ gb295)); have n3_ := Aside0.mk ((by rw [hg]; exact (zl (by repeat (first | (with_reducible first | exact HB.out | apply zf | apply zc | apply zi) | exact HB.out))) : w.heap.size ≤ gb295)); clear HB; have HB := n0_; have BK295 := n1_; have GW295 := n2_; have GE295 := n3_; clear n0_ n1_ n2_ n3_; clear hb hbox hg; have hcz3_0 : w2.cell? ⟨gb295, 0, none⟩ = some (.int .i64 a0_0) := (zb BK295.out 0).trans rfl; have hcz3_1 : w2.cell? ⟨gb295, 1, none⟩ = some (.int .i64 a0_1) := (zb BK295.out 1).trans rfl; have hcz3_2 : w2.cell? ⟨gb295, 2, none⟩ = some (.int .i64 a0_2) := (zb BK295.out 2).trans rfl; have hfz3_0 := za BK295.out 0; have hfz3_1 := za BK295.out 1; have hfz3_2 := za BK295.out 2))
  go_ret
  exact ⟨by first | rfl | (simp [errW_none, errW_some] <;> rfl) | (simp [*, errW_none, errW_some] <;> rfl), by repeat (first | (with_reducible first | exact HB.out | apply zf | apply zc | apply zi | refine zg ?_ GE295.out) | exact HB.out)⟩
end Go.Proofs.Ytkbfhonoamgjgaa.P
end
