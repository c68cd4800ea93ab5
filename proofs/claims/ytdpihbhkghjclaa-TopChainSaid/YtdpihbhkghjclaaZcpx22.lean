/- A claim's own texts, laid together by wip/zip.py without what the claim does not use. Conditions: none. -/
import Derived.Test.YtdpihbhkghjclaaZcpx0
section
/- The Go functions of this claim as Lean functions, and the proofs that their calls answer so: written by wip/myprint.py over the kit's printer, hand-proved contracts laid in. Conditions: none. -/
namespace Go.Proofs.Ytdpihbhkghjclaa.P
open Go.RowKit Go.Proofs.YtdpihbhkghjclaaW.PrintWords Go.Proofs.YtdpihbhkghjclaaW.PrintLast Go.Proofs.YtdpihbhkghjclaaW.PrintMore
attribute [local go_sem] max2_int min2_int max_two min_two max_three min_three max_four min_four   -- for this text's walks alone
set_option linter.unusedVariables false
set_option linter.unusedSimpArgs false
/-! ### clock_clock_at: function 35 -/
def clock_clock_at.f (a0_0 : Int) (a0_1 : Int) (a1 : Int) : Option (Int) := if (Int.tmod (wrap64 (a0_1 * a1)) 1000000) < 0 then (some (wrap64 ((wrap64 (a1 + a0_0)) + (wrap64 ((wrap64 (Int.tdiv (wrap64 (a0_1 * a1)) 1000000)) - 1))))) else (some (wrap64 ((wrap64 (a1 + a0_0)) + (wrap64 (Int.tdiv (wrap64 (a0_1 * a1)) 1000000)))))
set_option maxHeartbeats 8000000 in
set_option maxRecDepth 100000 in
theorem clock_clock_at.calls (a0_0 : Int) (a0_1 : Int) (a1 : Int) (r : Int) (w : World) (h : clock_clock_at.f a0_0 a0_1 a1 = some r) :
    Calls Try.prog 35 #[.agg #[.int .i64 a0_0, .int .i64 a0_1], .int .i64 a1] w fun e w' => e = .returned (.int .i64 r) ∧ Below w.heap.size w w' := by
  have hu72 := Try.underlying72
  have HB := Aside0.mk (Below.refl w.heap.size w)
  have H : (if (Int.tmod (wrap64 (a0_1 * a1)) 1000000) < 0 then (some (wrap64 ((wrap64 (a1 + a0_0)) + (wrap64 ((wrap64 (Int.tdiv (wrap64 (a0_1 * a1)) 1000000)) - 1))))) else (some (wrap64 ((wrap64 (a1 + a0_0)) + (wrap64 (Int.tdiv (wrap64 (a0_1 * a1)) 1000000)))))) = some r := h
  clear h
  by_cases c3 : (Int.tmod (wrap64 (a0_1 * a1)) 1000000) < 0
  · rw [if_pos c3] at H
    have c3b0 : decide ((Int.tmod (wrap64 (a0_1 * a1)) 1000000) < 0) = true := decide_eq_true c3
    clear c3
    obtain rfl := Option.some.inj H
    go_enter Try.func35, Try.ntmps35
    go_wp2_with (first | ((with_reducible refine zx (N := 2) rfl ?_); refine zw ?hg (N := 2) ?hd (cs := #[.int .i64 a0_0, .int .i64 a0_1]) (t := 72) ?hr ?_; (case hd => rfl); (case hg => rfl); (case hr => first | (go_simp; done) | (go_simp; rfl)); intro gb168 hg w4 hbox hb; have n0_ := Aside0.mk (zl (by repeat (first | (with_reducible first | exact HB.out | apply zc | apply zb | apply zf) | exact HB.out)) hb); have n1_ := Aside0.mk (hbox); have n2_ := Aside0.mk ((by rw [hg]; exact (zn (by repeat (first | (with_reducible first | exact HB.out | apply zc | apply zb | apply zf) | exact HB.out))) : w.heap.size ≤ gb168)); have n3_ := Aside0.mk ((by rw [hg]; exact (zn (by repeat (first | (with_reducible first | exact HB.out | apply zc | apply zb | apply zf) | exact HB.out))) : w.heap.size ≤ gb168)); clear HB; have HB := n0_; have BK168 := n1_; have GW168 := n2_; have GE168 := n3_; clear n0_ n1_ n2_ n3_; clear hb hbox hg; have hcz5_0 : w4.cell? ⟨gb168, 0, none⟩ = some (.int .i64 a0_0) := (zd BK168.out 0).trans rfl; have hcz5_1 : w4.cell? ⟨gb168, 1, none⟩ = some (.int .i64 a0_1) := (zd BK168.out 1).trans rfl; have hfz5_0 := za BK168.out 0; have hfz5_1 := za BK168.out 1))
    go_ret
    exact ⟨by first | rfl | (simp [errW_none, errW_some] <;> rfl) | (simp [*, errW_none, errW_some] <;> rfl), by repeat (first | (with_reducible first | exact HB.out | apply zc | apply zb | apply zf | refine zh ?_ GE168.out) | exact HB.out)⟩
  · rw [if_neg c3] at H
    have c3b0 : decide ((Int.tmod (wrap64 (a0_1 * a1)) 1000000) < 0) = false := decide_eq_false c3
    clear c3
    obtain rfl := Option.some.inj H
    go_enter Try.func35, Try.ntmps35
    go_wp2_with (first | ((with_reducible refine zx (N := 2) rfl ?_); refine zw ?hg (N := 2) ?hd (cs := #[.int .i64 a0_0, .int .i64 a0_1]) (t := 72) ?hr ?_; (case hd => rfl); (case hg => rfl); (case hr => first | (go_simp; done) | (go_simp; rfl)); intro gb168 hg w6 hbox hb; have n0_ := Aside0.mk (zl (by repeat (first | (with_reducible first | exact HB.out | apply zc | apply zb | apply zf) | exact HB.out)) hb); have n1_ := Aside0.mk (hbox); have n2_ := Aside0.mk ((by rw [hg]; exact (zn (by repeat (first | (with_reducible first | exact HB.out | apply zc | apply zb | apply zf) | exact HB.out))) : w.heap.size ≤ gb168)); have n3_ := Aside0.mk ((by rw [hg]; exact (zn (by repeat (first | (with_reducible first | exact HB.out | apply zc | apply zb | apply zf) | exact HB.out))) : w.heap.size ≤ gb168)); clear HB; have HB := n0_; have BK168 := n1_; have GW168 := n2_; have GE168 := n3_; clear n0_ n1_ n2_ n3_; clear hb hbox hg; have hcz7_0 : w6.cell? ⟨gb168, 0, none⟩ = some (.int .i64 a0_0) := (zd BK168.out 0).trans rfl; have hcz7_1 : w6.cell? ⟨gb168, 1, none⟩ = some (.int .i64 a0_1) := (zd BK168.out 1).trans rfl; have hfz7_0 := za BK168.out 0; have hfz7_1 := za BK168.out 1))
    go_ret
    exact ⟨by first | rfl | (simp [errW_none, errW_some] <;> rfl) | (simp [*, errW_none, errW_some] <;> rfl), by repeat (first | (with_reducible first | exact HB.out | apply zc | apply zb | apply zf | refine zh ?_ GE168.out) | exact HB.out)⟩
end Go.Proofs.Ytdpihbhkghjclaa.P
end
