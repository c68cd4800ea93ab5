/- A claim's own texts, laid together by wip/zip.py without what the claim does not use. Conditions: none. -/
import Derived.Test.YtdpihbhkghjclaaZcpx0
section
/- The Go functions of this claim as Lean functions, and the proofs that their calls answer so: written by wip/myprint.py over the kit's printer, hand-proved contracts laid in. Conditions: none. -/
namespace Go.Proofs.Ytdpihbhkghjclaa.P
open Go.RowKit Go.Proofs.YtdpihbhkghjclaaW.PrintWords Go.Proofs.YtdpihbhkghjclaaW.PrintLast Go.Proofs.YtdpihbhkghjclaaW.PrintMore
attribute [local go_sem] max2_int min2_int max_two min_two max_three min_three max_four min_four   -- for this text's walks alone
set_option linter.unusedVariables false
set_option linter.unusedSimpArgs false
/-! ### slotmeshref07_Valid: function 15 -/
def slotmeshref07_Valid.f (a0_0 : Int) (a0_1 : Int) : Option (Bool) := if a0_0 ≥ (-1000000000) then (if a0_0 ≤ 1000000000 then (if a0_1 ≥ (-50) then (some (decide (a0_1 ≤ 50))) else (some false)) else (some false)) else (some false)
set_option maxHeartbeats 8000000 in
set_option maxRecDepth 100000 in
theorem slotmeshref07_Valid.calls (a0_0 : Int) (a0_1 : Int) (r : Bool) (w : World) (h : slotmeshref07_Valid.f a0_0 a0_1 = some r) :
    Calls Try.prog 15 #[.agg #[.int .i64 a0_0, .int .i64 a0_1]] w fun e w' => e = .returned (.bool r) ∧ Below w.heap.size w w' := by
  have hu27 := Try.underlying27
  have HB := Aside0.mk (Below.refl w.heap.size w)
  have H : (if a0_0 ≥ (-1000000000) then (if a0_0 ≤ 1000000000 then (if a0_1 ≥ (-50) then (some (decide (a0_1 ≤ 50))) else (some false)) else (some false)) else (some false)) = some r := h
  clear h
  by_cases c2 : a0_0 ≥ (-1000000000)
  · rw [if_pos c2] at H
    have c2b0 : decide ((-1000000000) ≤ a0_0) = true := decide_eq_true c2
    clear c2
    by_cases c3 : a0_0 ≤ 1000000000
    · rw [if_pos c3] at H
      have c3b0 : decide (a0_0 ≤ 1000000000) = true := decide_eq_true c3
      clear c3
      by_cases c4 : a0_1 ≥ (-50)
      · rw [if_pos c4] at H
        have c4b0 : decide ((-50) ≤ a0_1) = true := decide_eq_true c4
        clear c4
        obtain rfl := Option.some.inj H
        go_enter Try.func15, Try.ntmps15
        go_wp2_with (first | ((with_reducible refine zx (N := 1) rfl ?_); refine zw ?hg (N := 1) ?hd (cs := #[.int .i64 a0_0, .int .i64 a0_1]) (t := 27) ?hr ?_; (case hd => rfl); (case hg => rfl); (case hr => first | (go_simp; done) | (go_simp; rfl)); intro gb228 hg w5 hbox hb; have n0_ := Aside0.mk (zl (by repeat (first | (with_reducible first | exact HB.out | apply zc | apply zb | apply zf) | exact HB.out)) hb); have n1_ := Aside0.mk (hbox); have n2_ := Aside0.mk ((by rw [hg]; exact (zn (by repeat (first | (with_reducible first | exact HB.out | apply zc | apply zb | apply zf) | exact HB.out))) : w.heap.size ≤ gb228)); have n3_ := Aside0.mk ((by rw [hg]; exact (zn (by repeat (first | (with_reducible first | exact HB.out | apply zc | apply zb | apply zf) | exact HB.out))) : w.heap.size ≤ gb228)); clear HB; have HB := n0_; have BK228 := n1_; have GW228 := n2_; have GE228 := n3_; clear n0_ n1_ n2_ n3_; clear hb hbox hg; have hcz6_0 : w5.cell? ⟨gb228, 0, none⟩ = some (.int .i64 a0_0) := (zd BK228.out 0).trans rfl; have hcz6_1 : w5.cell? ⟨gb228, 1, none⟩ = some (.int .i64 a0_1) := (zd BK228.out 1).trans rfl; have hfz6_0 := za BK228.out 0; have hfz6_1 := za BK228.out 1))
        go_ret
        exact ⟨by first | rfl | (simp [errW_none, errW_some] <;> rfl) | (simp [*, errW_none, errW_some] <;> rfl), by repeat (first | (with_reducible first | exact HB.out | apply zc | apply zb | apply zf | refine zh ?_ GE228.out) | exact HB.out)⟩
      · rw [if_neg c4] at H
        have c4b0 : decide ((-50) ≤ a0_1) = false := decide_eq_false c4
        clear c4
        obtain rfl := Option.some.inj H
        go_enter Try.func15, Try.ntmps15
        go_wp2_with (first | ((with_reducible refine zx (N := 1) rfl ?_); refine zw ?hg (N := 1) ?hd (cs := #[.int .i64 a0_0, .int .i64 a0_1]) (t := 27) ?hr ?_; (case hd => rfl); (case hg => rfl); (case hr => first | (go_simp; done) | (go_simp; rfl)); intro gb228 hg w7 hbox hb; have n0_ := Aside0.mk (zl (by repeat (first | (with_reducible first | exact HB.out | apply zc | apply zb | apply zf) | exact HB.out)) hb); have n1_ := Aside0.mk (hbox); have n2_ := Aside0.mk ((by rw [hg]; exact (zn (by repeat (first | (with_reducible first | exact HB.out | apply zc | apply zb | apply zf) | exact HB.out))) : w.heap.size ≤ gb228)); have n3_ := Aside0.mk ((by rw [hg]; exact (zn (by repeat (first | (with_reducible first | exact HB.out | apply zc | apply zb | apply zf) | exact HB.out))) : w.heap.size ≤ gb228)); clear HB; have HB := n0_; have BK228 := n1_; have GW228 := n2_; have GE228 := n3_; clear n0_ n1_ n2_ n3_; clear hb hbox hg; have hcz8_0 : w7.cell? ⟨gb228, 0, none⟩ = some (.int .i64 a0_0) := (zd BK228.out 0).trans rfl; have hcz8_1 : w7.cell? ⟨gb228, 1, none⟩ = some (.int .i64 a0_1) := (zd BK228.out 1).trans rfl; have hfz8_0 := za BK228.out 0; have hfz8_1 := za BK228.out 1))
        go_ret
        exact ⟨by first | rfl | (simp [errW_none, errW_some] <;> rfl) | (simp [*, errW_none, errW_some] <;> rfl), by repeat (first | (with_reducible first | exact HB.out | apply zc | apply zb | apply zf | refine zh ?_ GE228.out) | exact HB.out)⟩
    · rw [if_neg c3] at H
      have c3b0 : decide (a0_0 ≤ 1000000000) = false := decide_eq_false c3
      clear c3
      obtain rfl := Option.some.inj H
      go_enter Try.func15, Try.ntmps15
      go_wp2_with (first | ((with_reducible refine zx (N := 1) rfl ?_); refine zw ?hg (N := 1) ?hd (cs := #[.int .i64 a0_0, .int .i64 a0_1]) (t := 27) ?hr ?_; (case hd => rfl); (case hg => rfl); (case hr => first | (go_simp; done) | (go_simp; rfl)); intro gb228 hg w9 hbox hb; have n0_ := Aside0.mk (zl (by repeat (first | (with_reducible first | exact HB.out | apply zc | apply zb | apply zf) | exact HB.out)) hb); have n1_ := Aside0.mk (hbox); have n2_ := Aside0.mk ((by rw [hg]; exact (zn (by repeat (first | (with_reducible first | exact HB.out | apply zc | apply zb | apply zf) | exact HB.out))) : w.heap.size ≤ gb228)); have n3_ := Aside0.mk ((by rw [hg]; exact (zn (by repeat (first | (with_reducible first | exact HB.out | apply zc | apply zb | apply zf) | exact HB.out))) : w.heap.size ≤ gb228)); clear HB; have HB := n0_; have BK228 := n1_; have GW228 := n2_; have GE228 := n3_; clear n0_ n1_ n2_ n3_; clear hb hbox hg; have hcz10_0 : w9.cell? ⟨gb228, 0, none⟩ = some (.int .i64 a0_0) := (zd BK228.out 0).trans rfl; have hcz10_1 : w9.cell? ⟨gb228, 1, none⟩ = some (.int .i64 a0_1) := (zd BK228.out 1).trans rfl; have hfz10_0 := za BK228.out 0; have hfz10_1 := za BK228.out 1))
      go_ret
      exact ⟨by first | rfl | (simp [errW_none, errW_some] <;> rfl) | (simp [*, errW_none, errW_some] <;> rfl), by repeat (first | (with_reducible first | exact HB.out | apply zc | apply zb | apply zf | refine zh ?_ GE228.out) | exact HB.out)⟩
  · rw [if_neg c2] at H
    have c2b0 : decide ((-1000000000) ≤ a0_0) = false := decide_eq_false c2
    clear c2
    obtain rfl := Option.some.inj H
    go_enter Try.func15, Try.ntmps15
    go_wp2_with (first | ((with_reducible refine zx (N := 1) rfl ?_); refine zw ?hg (N := 1) ?hd (cs := #[.int .i64 a0_0, .int .i64 a0_1]) (t := 27) ?hr ?_; (case hd => rfl); (case hg => rfl); (case hr => first | (go_simp; done) | (go_simp; rfl)); intro gb228 hg w11 hbox hb; have n0_ := Aside0.mk (zl (by repeat (first | (with_reducible first | exact HB.out | apply zc | apply zb | apply zf) | exact HB.out)) hb); have n1_ := Aside0.mk (hbox); have n2_ := Aside0.mk ((by rw [hg]; exact (zn (by repeat (first | (with_reducible first | exact HB.out | apply zc | apply zb | apply zf) | exact HB.out))) : w.heap.size ≤ gb228)); have n3_ := Aside0.mk ((by rw [hg]; exact (zn (by repeat (first | (with_reducible first | exact HB.out | apply zc | apply zb | apply zf) | exact HB.out))) : w.heap.size ≤ gb228)); clear HB; have HB := n0_; have BK228 := n1_; have GW228 := n2_; have GE228 := n3_; clear n0_ n1_ n2_ n3_; clear hb hbox hg; have hcz12_0 : w11.cell? ⟨gb228, 0, none⟩ = some (.int .i64 a0_0) := (zd BK228.out 0).trans rfl; have hcz12_1 : w11.cell? ⟨gb228, 1, none⟩ = some (.int .i64 a0_1) := (zd BK228.out 1).trans rfl; have hfz12_0 := za BK228.out 0; have hfz12_1 := za BK228.out 1))
    go_ret
    exact ⟨by first | rfl | (simp [errW_none, errW_some] <;> rfl) | (simp [*, errW_none, errW_some] <;> rfl), by repeat (first | (with_reducible first | exact HB.out | apply zc | apply zb | apply zf | refine zh ?_ GE228.out) | exact HB.out)⟩
end Go.Proofs.Ytdpihbhkghjclaa.P
end
