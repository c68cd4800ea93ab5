/- A claim's own texts, laid together by wip/zip.py without what the claim does not use. Conditions: none. -/
import Derived.Test.YtkbfhonoamgjgaaZmpx0
section
/- The Go functions of this claim as Lean functions, and the proofs that their calls answer so: written by wip/myprint.py over the kit's printer, hand-proved contracts laid in. Conditions: none. -/
namespace Go.Proofs.Ytkbfhonoamgjgaa.P
open Go.RowKit Go.Proofs.YtkbfhonoamgjgaaW.PrintWords Go.Proofs.YtkbfhonoamgjgaaW.PrintLast Go.Proofs.YtkbfhonoamgjgaaW.PrintMore
attribute [local go_sem] max2_int min2_int max_two min_two max_three min_three max_four min_four   -- for this text's walks alone
set_option linter.unusedVariables false
set_option linter.unusedSimpArgs false
/-! ### R8_Hint: function 43 -/
def R8_Hint.f (a0_0 : Int) (a0_1 : Int) (a0_2 : Int) (a0_3 : Int) (a0_4 : Int) : Option (Bool) := if a0_3 ≥ 0 then (if a0_3 ≤ 1000000000 then (if a0_2 ≥ 0 then (if a0_2 ≤ 2000 then (if a0_4 ≥ (-2000000000) then (some (decide (a0_4 ≤ 20000000000000))) else (some false)) else (some false)) else (some false)) else (some false)) else (some false)
set_option maxHeartbeats 8000000 in
set_option maxRecDepth 100000 in
theorem R8_Hint.calls (a0_0 : Int) (a0_1 : Int) (a0_2 : Int) (a0_3 : Int) (a0_4 : Int) (r : Bool) (w : World) (h : R8_Hint.f a0_0 a0_1 a0_2 a0_3 a0_4 = some r) :
    Calls Try.prog 43 #[.agg #[.int .i64 a0_0, .int .i64 a0_1, .int .i64 a0_2, .int .i64 a0_3, .int .i64 a0_4]] w fun e w' => e = .returned (.bool r) ∧ Below w.heap.size w w' := by
  have hu27 := Try.underlying27
  have HB := Aside0.mk (Below.refl w.heap.size w)
  have H : (if a0_3 ≥ 0 then (if a0_3 ≤ 1000000000 then (if a0_2 ≥ 0 then (if a0_2 ≤ 2000 then (if a0_4 ≥ (-2000000000) then (some (decide (a0_4 ≤ 20000000000000))) else (some false)) else (some false)) else (some false)) else (some false)) else (some false)) = some r := h
  clear h
  by_cases c2 : a0_3 ≥ 0
  · rw [if_pos c2] at H
    have c2b0 : decide (0 ≤ a0_3) = true := decide_eq_true c2
    clear c2
    by_cases c3 : a0_3 ≤ 1000000000
    · rw [if_pos c3] at H
      have c3b0 : decide (a0_3 ≤ 1000000000) = true := decide_eq_true c3
      clear c3
      by_cases c4 : a0_2 ≥ 0
      · rw [if_pos c4] at H
        have c4b0 : decide (0 ≤ a0_2) = true := decide_eq_true c4
        clear c4
        by_cases c5 : a0_2 ≤ 2000
        · rw [if_pos c5] at H
          have c5b0 : decide (a0_2 ≤ 2000) = true := decide_eq_true c5
          clear c5
          by_cases c6 : a0_4 ≥ (-2000000000)
          · rw [if_pos c6] at H
            have c6b0 : decide ((-2000000000) ≤ a0_4) = true := decide_eq_true c6
            clear c6
            obtain rfl := Option.some.inj H
            go_enter Try.func43, Try.ntmps43
            go_wp2_with (first | ((with_reducible refine zr (N := 1) rfl ?_); refine zq ?hg (N := 1) ?hd (cs := #[.int .i64 a0_0, .int .i64 a0_1, .int .i64 a0_2, .int .i64 a0_3, .int .i64 a0_4]) (t := 27) ?hr ?_; (case hd => rfl); (case hg => rfl); (case hr => first | (go_simp; done) | (go_simp; rfl)); intro gb263 hg w7 hbox hb; have n0_ := Aside0.mk (zk (by repeat (first | (with_reducible first | exact HB.out | apply zf | apply zc | apply zi) | exact HB.out)) hb); have n1_ := Aside0.mk (hbox); have n2_ := Aside0.mk ((by rw [hg]; exact (zl (by repeat (first | (with_reducible first | exact HB.out | apply zf | apply zc | apply zi) | exact HB.out))) : w.heap.size ≤ gb263)); have n3_ := Aside0.mk ((by rw [hg]; exact (zl (by repeat (first | (with_reducible first | exact HB.out | apply zf | apply zc | apply zi) | exact HB.out))) : w.heap.size ≤ gb263)); clear HB; have HB := n0_; have BK263 := n1_; have GW263 := n2_; have GE263 := n3_; clear n0_ n1_ n2_ n3_; clear hb hbox hg; have hcz8_0 : w7.cell? ⟨gb263, 0, none⟩ = some (.int .i64 a0_0) := (zb BK263.out 0).trans rfl; have hcz8_1 : w7.cell? ⟨gb263, 1, none⟩ = some (.int .i64 a0_1) := (zb BK263.out 1).trans rfl; have hcz8_2 : w7.cell? ⟨gb263, 2, none⟩ = some (.int .i64 a0_2) := (zb BK263.out 2).trans rfl; have hcz8_3 : w7.cell? ⟨gb263, 3, none⟩ = some (.int .i64 a0_3) := (zb BK263.out 3).trans rfl; have hcz8_4 : w7.cell? ⟨gb263, 4, none⟩ = some (.int .i64 a0_4) := (zb BK263.out 4).trans rfl; have hfz8_0 := za BK263.out 0; have hfz8_1 := za BK263.out 1; have hfz8_2 := za BK263.out 2; have hfz8_3 := za BK263.out 3; have hfz8_4 := za BK263.out 4))
            go_ret
            exact ⟨by first | rfl | (simp [errW_none, errW_some] <;> rfl) | (simp [*, errW_none, errW_some] <;> rfl), by repeat (first | (with_reducible first | exact HB.out | apply zf | apply zc | apply zi | refine zg ?_ GE263.out) | exact HB.out)⟩
          · rw [if_neg c6] at H
            have c6b0 : decide ((-2000000000) ≤ a0_4) = false := decide_eq_false c6
            clear c6
            obtain rfl := Option.some.inj H
            go_enter Try.func43, Try.ntmps43
            go_wp2_with (first | ((with_reducible refine zr (N := 1) rfl ?_); refine zq ?hg (N := 1) ?hd (cs := #[.int .i64 a0_0, .int .i64 a0_1, .int .i64 a0_2, .int .i64 a0_3, .int .i64 a0_4]) (t := 27) ?hr ?_; (case hd => rfl); (case hg => rfl); (case hr => first | (go_simp; done) | (go_simp; rfl)); intro gb263 hg w9 hbox hb; have n0_ := Aside0.mk (zk (by repeat (first | (with_reducible first | exact HB.out | apply zf | apply zc | apply zi) | exact HB.out)) hb); have n1_ := Aside0.mk (hbox); have n2_ := Aside0.mk ((by rw [hg]; exact (zl (by repeat (first | (with_reducible first | exact HB.out | apply zf | apply zc | apply zi) | exact HB.out))) : w.heap.size ≤ gb263)); have n3_ := Aside0.mk ((by rw [hg]; exact (zl (by repeat (first | (with_reducible first | exact HB.out | apply zf | apply zc | apply zi) | exact HB.out))) : w.heap.size ≤ gb263)); clear HB; have HB := n0_; have BK263 := n1_; have GW263 := n2_; have GE263 := n3_; clear n0_ n1_ n2_ n3_; clear hb hbox hg; have hcz10_0 : w9.cell? ⟨gb263, 0, none⟩ = some (.int .i64 a0_0) := (zb BK263.out 0).trans rfl; have hcz10_1 : w9.cell? ⟨gb263, 1, none⟩ = some (.int .i64 a0_1) := (zb BK263.out 1).trans rfl; have hcz10_2 : w9.cell? ⟨gb263, 2, none⟩ = some (.int .i64 a0_2) := (zb BK263.out 2).trans rfl; have hcz10_3 : w9.cell? ⟨gb263, 3, none⟩ = some (.int .i64 a0_3) := (zb BK263.out 3).trans rfl; have hcz10_4 : w9.cell? ⟨gb263, 4, none⟩ = some (.int .i64 a0_4) := (zb BK263.out 4).trans rfl; have hfz10_0 := za BK263.out 0; have hfz10_1 := za BK263.out 1; have hfz10_2 := za BK263.out 2; have hfz10_3 := za BK263.out 3; have hfz10_4 := za BK263.out 4))
            go_ret
            exact ⟨by first | rfl | (simp [errW_none, errW_some] <;> rfl) | (simp [*, errW_none, errW_some] <;> rfl), by repeat (first | (with_reducible first | exact HB.out | apply zf | apply zc | apply zi | refine zg ?_ GE263.out) | exact HB.out)⟩
        · rw [if_neg c5] at H
          have c5b0 : decide (a0_2 ≤ 2000) = false := decide_eq_false c5
          clear c5
          obtain rfl := Option.some.inj H
          go_enter Try.func43, Try.ntmps43
          go_wp2_with (first | ((with_reducible refine zr (N := 1) rfl ?_); refine zq ?hg (N := 1) ?hd (cs := #[.int .i64 a0_0, .int .i64 a0_1, .int .i64 a0_2, .int .i64 a0_3, .int .i64 a0_4]) (t := 27) ?hr ?_; (case hd => rfl); (case hg => rfl); (case hr => first | (go_simp; done) | (go_simp; rfl)); intro gb263 hg w11 hbox hb; have n0_ := Aside0.mk (zk (by repeat (first | (with_reducible first | exact HB.out | apply zf | apply zc | apply zi) | exact HB.out)) hb); have n1_ := Aside0.mk (hbox); have n2_ := Aside0.mk ((by rw [hg]; exact (zl (by repeat (first | (with_reducible first | exact HB.out | apply zf | apply zc | apply zi) | exact HB.out))) : w.heap.size ≤ gb263)); have n3_ := Aside0.mk ((by rw [hg]; exact (zl (by repeat (first | (with_reducible first | exact HB.out | apply zf | apply zc | apply zi) | exact HB.out))) : w.heap.size ≤ gb263)); clear HB; have HB := n0_; have BK263 := n1_; have GW263 := n2_; have GE263 := n3_; clear n0_ n1_ n2_ n3_; clear hb hbox hg; have hcz12_0 : w11.cell? ⟨gb263, 0, none⟩ = some (.int .i64 a0_0) := (zb BK263.out 0).trans rfl; have hcz12_1 : w11.cell? ⟨gb263, 1, none⟩ = some (.int .i64 a0_1) := (zb BK263.out 1).trans rfl; have hcz12_2 : w11.cell? ⟨gb263, 2, none⟩ = some (.int .i64 a0_2) := (zb BK263.out 2).trans rfl; have hcz12_3 : w11.cell? ⟨gb263, 3, none⟩ = some (.int .i64 a0_3) := (zb BK263.out 3).trans rfl; have hcz12_4 : w11.cell? ⟨gb263, 4, none⟩ = some (.int .i64 a0_4) := (zb BK263.out 4).trans rfl; have hfz12_0 := za BK263.out 0; have hfz12_1 := za BK263.out 1; have hfz12_2 := za BK263.out 2; have hfz12_3 := za BK263.out 3; have hfz12_4 := za BK263.out 4))
          go_ret
          exact ⟨by first | rfl | (simp [errW_none, errW_some] <;> rfl) | (simp [*, errW_none, errW_some] <;> rfl), by repeat (first | (with_reducible first | exact HB.out | apply zf | apply zc | apply zi | refine zg ?_ GE263.out) | exact HB.out)⟩
      · rw [if_neg c4] at H
        have c4b0 : decide (0 ≤ a0_2) = false := decide_eq_false c4
        clear c4
        obtain rfl := Option.some.inj H
        go_enter Try.func43, Try.ntmps43
        go_wp2_with (first | ((with_reducible refine zr (N := 1) rfl ?_); refine zq ?hg (N := 1) ?hd (cs := #[.int .i64 a0_0, .int .i64 a0_1, .int .i64 a0_2, .int .i64 a0_3, .int .i64 a0_4]) (t := 27) ?hr ?_; (case hd => rfl); (case hg => rfl); (case hr => first | (go_simp; done) | (go_simp; rfl)); intro gb263 hg w13 hbox hb; have n0_ := Aside0.mk (zk (by repeat (first | (with_reducible first | exact HB.out | apply zf | apply zc | apply zi) | exact HB.out)) hb); have n1_ := Aside0.mk (hbox); have n2_ := Aside0.mk ((by rw [hg]; exact (zl (by repeat (first | (with_reducible first | exact HB.out | apply zf | apply zc | apply zi) | exact HB.out))) : w.heap.size ≤ gb263)); have n3_ := Aside0.mk ((by rw [hg]; exact (zl (by repeat (first | (with_reducible first | exact HB.out | apply zf | apply zc | apply zi) | exact HB.out))) : w.heap.size ≤ gb263)); clear HB; have HB := n0_; have BK263 := n1_; have GW263 := n2_; have GE263 := n3_; clear n0_ n1_ n2_ n3_; clear hb hbox hg; have hcz14_0 : w13.cell? ⟨gb263, 0, none⟩ = some (.int .i64 a0_0) := (zb BK263.out 0).trans rfl; have hcz14_1 : w13.cell? ⟨gb263, 1, none⟩ = some (.int .i64 a0_1) := (zb BK263.out 1).trans rfl; have hcz14_2 : w13.cell? ⟨gb263, 2, none⟩ = some (.int .i64 a0_2) := (zb BK263.out 2).trans rfl; have hcz14_3 : w13.cell? ⟨gb263, 3, none⟩ = some (.int .i64 a0_3) := (zb BK263.out 3).trans rfl; have hcz14_4 : w13.cell? ⟨gb263, 4, none⟩ = some (.int .i64 a0_4) := (zb BK263.out 4).trans rfl; have hfz14_0 := za BK263.out 0; have hfz14_1 := za BK263.out 1; have hfz14_2 := za BK263.out 2; have hfz14_3 := za BK263.out 3; have hfz14_4 := za BK263.out 4))
        go_ret
        exact ⟨by first | rfl | (simp [errW_none, errW_some] <;> rfl) | (simp [*, errW_none, errW_some] <;> rfl), by repeat (first | (with_reducible first | exact HB.out | apply zf | apply zc | apply zi | refine zg ?_ GE263.out) | exact HB.out)⟩
    · rw [if_neg c3] at H
      have c3b0 : decide (a0_3 ≤ 1000000000) = false := decide_eq_false c3
      clear c3
      obtain rfl := Option.some.inj H
      go_enter Try.func43, Try.ntmps43
      go_wp2_with (first | ((with_reducible refine zr (N := 1) rfl ?_); refine zq ?hg (N := 1) ?hd (cs := #[.int .i64 a0_0, .int .i64 a0_1, .int .i64 a0_2, .int .i64 a0_3, .int .i64 a0_4]) (t := 27) ?hr ?_; (case hd => rfl); (case hg => rfl); (case hr => first | (go_simp; done) | (go_simp; rfl)); intro gb263 hg w15 hbox hb; have n0_ := Aside0.mk (zk (by repeat (first | (with_reducible first | exact HB.out | apply zf | apply zc | apply zi) | exact HB.out)) hb); have n1_ := Aside0.mk (hbox); have n2_ := Aside0.mk ((by rw [hg]; exact (zl (by repeat (first | (with_reducible first | exact HB.out | apply zf | apply zc | apply zi) | exact HB.out))) : w.heap.size ≤ gb263)); have n3_ := Aside0.mk ((by rw [hg]; exact (zl (by repeat (first | (with_reducible first | exact HB.out | apply zf | apply zc | apply zi) | exact HB.out))) : w.heap.size ≤ gb263)); clear HB; have HB := n0_; have BK263 := n1_; have GW263 := n2_; have GE263 := n3_; clear n0_ n1_ n2_ n3_; clear hb hbox hg; have hcz16_0 : w15.cell? ⟨gb263, 0, none⟩ = some (.int .i64 a0_0) := (zb BK263.out 0).trans rfl; have hcz16_1 : w15.cell? ⟨gb263, 1, none⟩ = some (.int .i64 a0_1) := (zb BK263.out 1).trans rfl; have hcz16_2 : w15.cell? ⟨gb263, 2, none⟩ = some (.int .i64 a0_2) := (zb BK263.out 2).trans rfl; have hcz16_3 : w15.cell? ⟨gb263, 3, none⟩ = some (.int .i64 a0_3) := (zb BK263.out 3).trans rfl; have hcz16_4 : w15.cell? ⟨gb263, 4, none⟩ = some (.int .i64 a0_4) := (zb BK263.out 4).trans rfl; have hfz16_0 := za BK263.out 0; have hfz16_1 := za BK263.out 1; have hfz16_2 := za BK263.out 2; have hfz16_3 := za BK263.out 3; have hfz16_4 := za BK263.out 4))
      go_ret
      exact ⟨by first | rfl | (simp [errW_none, errW_some] <;> rfl) | (simp [*, errW_none, errW_some] <;> rfl), by repeat (first | (with_reducible first | exact HB.out | apply zf | apply zc | apply zi | refine zg ?_ GE263.out) | exact HB.out)⟩
  · rw [if_neg c2] at H
    have c2b0 : decide (0 ≤ a0_3) = false := decide_eq_false c2
    clear c2
    obtain rfl := Option.some.inj H
    go_enter Try.func43, Try.ntmps43
    go_wp2_with (first | ((with_reducible refine zr (N := 1) rfl ?_); refine zq ?hg (N := 1) ?hd (cs := #[.int .i64 a0_0, .int .i64 a0_1, .int .i64 a0_2, .int .i64 a0_3, .int .i64 a0_4]) (t := 27) ?hr ?_; (case hd => rfl); (case hg => rfl); (case hr => first | (go_simp; done) | (go_simp; rfl)); intro gb263 hg w17 hbox hb; have n0_ := Aside0.mk (zk (by repeat (first | (with_reducible first | exact HB.out | apply zf | apply zc | apply zi) | exact HB.out)) hb); have n1_ := Aside0.mk (hbox); have n2_ := Aside0.mk ((by rw [hg]; exact (zl (by repeat (first | (with_reducible first | exact HB.out | apply zf | apply zc | apply zi) | exact HB.out))) : w.heap.size ≤ gb263)); have n3_ := Aside0.mk ((by rw [hg]; exact (zl (by repeat (first | (with_reducible first | exact HB.out | apply zf | apply zc | apply zi) | exact HB.out))) : w.heap.size ≤ gb263)); clear HB; have HB := n0_; have BK263 := n1_; have GW263 := n2_; have GE263 := n3_; clear n0_ n1_ n2_ n3_; clear hb hbox hg; have hcz18_0 : w17.cell? ⟨gb263, 0, none⟩ = some (.int .i64 a0_0) := (zb BK263.out 0).trans rfl; have hcz18_1 : w17.cell? ⟨gb263, 1, none⟩ = some (.int .i64 a0_1) := (zb BK263.out 1).trans rfl; have hcz18_2 : w17.cell? ⟨gb263, 2, none⟩ = some (.int .i64 a0_2) := (zb BK263.out 2).trans rfl; have hcz18_3 : w17.cell? ⟨gb263, 3, none⟩ = some (.int .i64 a0_3) := (zb BK263.out 3).trans rfl; have hcz18_4 : w17.cell? ⟨gb263, 4, none⟩ = some (.int .i64 a0_4) := (zb BK263.out 4).trans rfl; have hfz18_0 := za BK263.out 0; have hfz18_1 := za BK263.out 1; have hfz18_2 := za BK263.out 2; have hfz18_3 := za BK263.out 3; have hfz18_4 := za BK263.out 4))
    go_ret
    exact ⟨by first | rfl | (simp [errW_none, errW_some] <;> rfl) | (simp [*, errW_none, errW_some] <;> rfl), by repeat (first | (with_reducible first | exact HB.out | apply zf | apply zc | apply zi | refine zg ?_ GE263.out) | exact HB.out)⟩
end Go.Proofs.Ytkbfhonoamgjgaa.P
end
