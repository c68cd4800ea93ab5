/- A claim's own texts, laid together by wip/zip.py without what the claim does not use. Conditions: none. -/
import Derived.Test.YtdpihbhkghjclaaZcpx0
section
/- The Go functions of this claim as Lean functions, and the proofs that their calls answer so: written by wip/myprint.py over the kit's printer, hand-proved contracts laid in. Conditions: none. -/
namespace Go.Proofs.Ytdpihbhkghjclaa.P
open Go.RowKit Go.Proofs.YtdpihbhkghjclaaW.PrintWords Go.Proofs.YtdpihbhkghjclaaW.PrintLast Go.Proofs.YtdpihbhkghjclaaW.PrintMore
attribute [local go_sem] max2_int min2_int max_two min_two max_three min_three max_four min_four   -- for this text's walks alone
set_option linter.unusedVariables false
set_option linter.unusedSimpArgs false
/-! ### guard_node_ownTime: function 51 -/
def guard_node_ownTime.f (a0_0 : Bool) (a0_1 : Int) (a0_2 : Int) (a0_3 : Int) (a0_4 : Int) (a0_5 : Int) (a0_6 : Int) (a0_7 : Int) (a0_8 : Int) (a1 : Int) : Option (Int) := if a0_4 > 0 then (some (wrap64 ((wrap64 (a1 * 10000)) - ((wrap64 (a0_1 + a0_2)) / 2)))) else (some (wrap64 (a1 * 10000)))
set_option maxHeartbeats 8000000 in
set_option maxRecDepth 100000 in
theorem guard_node_ownTime.calls (a0_0 : Bool) (a0_1 : Int) (a0_2 : Int) (a0_3 : Int) (a0_4 : Int) (a0_5 : Int) (a0_6 : Int) (a0_7 : Int) (a0_8 : Int) (a1 : Int) (r : Int) (w : World) (h : guard_node_ownTime.f a0_0 a0_1 a0_2 a0_3 a0_4 a0_5 a0_6 a0_7 a0_8 a1 = some r) :
    Calls Try.prog 51 #[.agg #[.bool a0_0, .int .i64 a0_1, .int .i64 a0_2, .int .i64 a0_3, .int .i64 a0_4, .int .i64 a0_5, .int .i64 a0_6, .int .i64 a0_7, .int .i64 a0_8], .int .i64 a1] w fun e w' => e = .returned (.int .i64 r) ∧ Below w.heap.size w w' := by
  have hu68 := Try.underlying68
  have HB := Aside0.mk (Below.refl w.heap.size w)
  have H : (if a0_4 > 0 then (some (wrap64 ((wrap64 (a1 * 10000)) - ((wrap64 (a0_1 + a0_2)) / 2)))) else (some (wrap64 (a1 * 10000)))) = some r := h
  clear h
  by_cases c3 : a0_4 > 0
  · rw [if_pos c3] at H
    have c3b0 : decide (0 < a0_4) = true := decide_eq_true c3
    clear c3
    obtain rfl := Option.some.inj H
    go_enter Try.func51, Try.ntmps51
    go_wp2_with (first | ((with_reducible refine zx (N := 2) rfl ?_); refine zw ?hg (N := 2) ?hd (cs := #[.bool a0_0, .int .i64 a0_1, .int .i64 a0_2, .int .i64 a0_3, .int .i64 a0_4, .int .i64 a0_5, .int .i64 a0_6, .int .i64 a0_7, .int .i64 a0_8]) (t := 68) ?hr ?_; (case hd => rfl); (case hg => rfl); (case hr => first | (go_simp; done) | (go_simp; rfl)); intro gb167 hg w4 hbox hb; have n0_ := Aside0.mk (zl (by repeat (first | (with_reducible first | exact HB.out | apply zc | apply zb | apply zf) | exact HB.out)) hb); have n1_ := Aside0.mk (hbox); have n2_ := Aside0.mk ((by rw [hg]; exact (zn (by repeat (first | (with_reducible first | exact HB.out | apply zc | apply zb | apply zf) | exact HB.out))) : w.heap.size ≤ gb167)); have n3_ := Aside0.mk ((by rw [hg]; exact (zn (by repeat (first | (with_reducible first | exact HB.out | apply zc | apply zb | apply zf) | exact HB.out))) : w.heap.size ≤ gb167)); clear HB; have HB := n0_; have BK167 := n1_; have GW167 := n2_; have GE167 := n3_; clear n0_ n1_ n2_ n3_; clear hb hbox hg; have hcz5_0 : w4.cell? ⟨gb167, 0, none⟩ = some (.bool a0_0) := (zd BK167.out 0).trans rfl; have hcz5_1 : w4.cell? ⟨gb167, 1, none⟩ = some (.int .i64 a0_1) := (zd BK167.out 1).trans rfl; have hcz5_2 : w4.cell? ⟨gb167, 2, none⟩ = some (.int .i64 a0_2) := (zd BK167.out 2).trans rfl; have hcz5_3 : w4.cell? ⟨gb167, 3, none⟩ = some (.int .i64 a0_3) := (zd BK167.out 3).trans rfl; have hcz5_4 : w4.cell? ⟨gb167, 4, none⟩ = some (.int .i64 a0_4) := (zd BK167.out 4).trans rfl; have hcz5_5 : w4.cell? ⟨gb167, 5, none⟩ = some (.int .i64 a0_5) := (zd BK167.out 5).trans rfl; have hcz5_6 : w4.cell? ⟨gb167, 6, none⟩ = some (.int .i64 a0_6) := (zd BK167.out 6).trans rfl; have hcz5_7 : w4.cell? ⟨gb167, 7, none⟩ = some (.int .i64 a0_7) := (zd BK167.out 7).trans rfl; have hcz5_8 : w4.cell? ⟨gb167, 8, none⟩ = some (.int .i64 a0_8) := (zd BK167.out 8).trans rfl; have hfz5_0 := za BK167.out 0; have hfz5_1 := za BK167.out 1; have hfz5_2 := za BK167.out 2; have hfz5_3 := za BK167.out 3; have hfz5_4 := za BK167.out 4; have hfz5_5 := za BK167.out 5; have hfz5_6 := za BK167.out 6; have hfz5_7 := za BK167.out 7; have hfz5_8 := za BK167.out 8))
    go_ret
    exact ⟨by first | rfl | (simp [errW_none, errW_some] <;> rfl) | (simp [*, errW_none, errW_some] <;> rfl), by repeat (first | (with_reducible first | exact HB.out | apply zc | apply zb | apply zf | refine zh ?_ GE167.out) | exact HB.out)⟩
  · rw [if_neg c3] at H
    have c3b0 : decide (0 < a0_4) = false := decide_eq_false c3
    clear c3
    obtain rfl := Option.some.inj H
    go_enter Try.func51, Try.ntmps51
    go_wp2_with (first | ((with_reducible refine zx (N := 2) rfl ?_); refine zw ?hg (N := 2) ?hd (cs := #[.bool a0_0, .int .i64 a0_1, .int .i64 a0_2, .int .i64 a0_3, .int .i64 a0_4, .int .i64 a0_5, .int .i64 a0_6, .int .i64 a0_7, .int .i64 a0_8]) (t := 68) ?hr ?_; (case hd => rfl); (case hg => rfl); (case hr => first | (go_simp; done) | (go_simp; rfl)); intro gb167 hg w6 hbox hb; have n0_ := Aside0.mk (zl (by repeat (first | (with_reducible first | exact HB.out | apply zc | apply zb | apply zf) | exact HB.out)) hb); have n1_ := Aside0.mk (hbox); have n2_ := Aside0.mk ((by rw [hg]; exact (zn (by repeat (first | (with_reducible first | exact HB.out | apply zc | apply zb | apply zf) | exact HB.out))) : w.heap.size ≤ gb167)); have n3_ := Aside0.mk ((by rw [hg]; exact (zn (by repeat (first | (with_reducible first | exact HB.out | apply zc | apply zb | apply zf) | exact HB.out))) : w.heap.size ≤ gb167)); clear HB; have HB := n0_; have BK167 := n1_; have GW167 := n2_; have GE167 := n3_; clear n0_ n1_ n2_ n3_; clear hb hbox hg; have hcz7_0 : w6.cell? ⟨gb167, 0, none⟩ = some (.bool a0_0) := (zd BK167.out 0).trans rfl; have hcz7_1 : w6.cell? ⟨gb167, 1, none⟩ = some (.int .i64 a0_1) := (zd BK167.out 1).trans rfl; have hcz7_2 : w6.cell? ⟨gb167, 2, none⟩ = some (.int .i64 a0_2) := (zd BK167.out 2).trans rfl; have hcz7_3 : w6.cell? ⟨gb167, 3, none⟩ = some (.int .i64 a0_3) := (zd BK167.out 3).trans rfl; have hcz7_4 : w6.cell? ⟨gb167, 4, none⟩ = some (.int .i64 a0_4) := (zd BK167.out 4).trans rfl; have hcz7_5 : w6.cell? ⟨gb167, 5, none⟩ = some (.int .i64 a0_5) := (zd BK167.out 5).trans rfl; have hcz7_6 : w6.cell? ⟨gb167, 6, none⟩ = some (.int .i64 a0_6) := (zd BK167.out 6).trans rfl; have hcz7_7 : w6.cell? ⟨gb167, 7, none⟩ = some (.int .i64 a0_7) := (zd BK167.out 7).trans rfl; have hcz7_8 : w6.cell? ⟨gb167, 8, none⟩ = some (.int .i64 a0_8) := (zd BK167.out 8).trans rfl; have hfz7_0 := za BK167.out 0; have hfz7_1 := za BK167.out 1; have hfz7_2 := za BK167.out 2; have hfz7_3 := za BK167.out 3; have hfz7_4 := za BK167.out 4; have hfz7_5 := za BK167.out 5; have hfz7_6 := za BK167.out 6; have hfz7_7 := za BK167.out 7; have hfz7_8 := za BK167.out 8))
    go_ret
    exact ⟨by first | rfl | (simp [errW_none, errW_some] <;> rfl) | (simp [*, errW_none, errW_some] <;> rfl), by repeat (first | (with_reducible first | exact HB.out | apply zc | apply zb | apply zf | refine zh ?_ GE167.out) | exact HB.out)⟩
-- NOT PRINTED: function 52 (guard_check)
end Go.Proofs.Ytdpihbhkghjclaa.P
end
