/- A claim's own texts, laid together by wip/zip.py without what the claim does not use. Conditions: none. -/
import Derived.Test.YtdpihbhkghjclaaZgpx0
section
/- The Go functions of this claim as Lean functions, and the proofs that their calls answer so: written by wip/myprint.py over the kit's printer, hand-proved contracts laid in. Conditions: none. -/
namespace Go.Proofs.Ytdpihbhkghjclaa.P
open Go.RowKit Go.Proofs.YtdpihbhkghjclaaW.PrintWords Go.Proofs.YtdpihbhkghjclaaW.PrintLast Go.Proofs.YtdpihbhkghjclaaW.PrintMore
attribute [local go_sem] max2_int min2_int max_two min_two max_three min_three max_four min_four   -- for this text's walks alone
set_option linter.unusedVariables false
set_option linter.unusedSimpArgs false
/-! ### slotmeshref07_Valid: function 15 -/
def slotmeshref07_Valid.f (a0_0 : Int) (a0_1 : Int) : Option (Bool) := if a0_0 ≥ (-1000000000) then (if a0_0 ≤ 1000000000 then (if a0_1 ≥ (-50) then (some (decide (a0_1 ≤ 50))) else (some false)) else (some false)) else (some false)
set_option maxHeartbeats 8000000 in
set_option maxRecDepth 100000 in
theorem slotmeshref07_Valid.calls (a0_0 : Int) (a0_1 : Int) (r : Bool) (w : World) (h : slotmeshref07_Valid.f a0_0 a0_1 = some r) :
    Calls Try.prog 15 #[.agg #[.int .i64 a0_0, .int .i64 a0_1]] w fun e w' => e = .returned (.bool r) ∧ Below w.heap.size w w' := by
  have hu27 := Try.underlying27
  have HB := Aside0.mk (Below.refl w.heap.size w)
  have H : (if a0_0 ≥ (-1000000000) then (if a0_0 ≤ 1000000000 then (if a0_1 ≥ (-50) then (some (decide (a0_1 ≤ 50))) else (some false)) else (some false)) else (some false)) = some r := h
  clear h
  by_cases c2 : a0_0 ≥ (-1000000000)
  · rw [if_pos c2] at H
    have c2b0 : decide ((-1000000000) ≤ a0_0) = true := decide_eq_true c2
    clear c2
    by_cases c3 : a0_0 ≤ 1000000000
    · rw [if_pos c3] at H
      have c3b0 : decide (a0_0 ≤ 1000000000) = true := decide_eq_true c3
      clear c3
      by_cases c4 : a0_1 ≥ (-50)
      · rw [if_pos c4] at H
        have c4b0 : decide ((-50) ≤ a0_1) = true := decide_eq_true c4
        clear c4
        obtain rfl := Option.some.inj H
        go_enter Try.func15, Try.ntmps15
        go_wp2_with (first | ((with_reducible refine gate_dst (N := 1) rfl ?_); refine box_event ?hg (N := 1) ?hd (cs := #[.int .i64 a0_0, .int .i64 a0_1]) (t := 27) ?hr ?_; (case hd => rfl); (case hg => rfl); (case hr => first | (go_simp; done) | (go_simp; rfl)); intro gb228 hg w5 hbox hb; have n0_ := Aside0.mk (below_step (by repeat (first | (with_reducible first | exact HB.out | apply below_alloc | apply pw_below_drewN | apply below_drew1) | exact HB.out)) hb); have n1_ := Aside0.mk (hbox); have n2_ := Aside0.mk ((by rw [hg]; exact (below_size (by repeat (first | (with_reducible first | exact HB.out | apply below_alloc | apply pw_below_drewN | apply below_drew1) | exact HB.out))) : w.heap.size ≤ gb228)); have n3_ := Aside0.mk ((by rw [hg]; exact (below_size (by repeat (first | (with_reducible first | exact HB.out | apply below_alloc | apply pw_below_drewN | apply below_drew1) | exact HB.out))) : w.heap.size ≤ gb228)); clear HB; have HB := n0_; have BK228 := n1_; have GW228 := n2_; have GE228 := n3_; clear n0_ n1_ n2_ n3_; clear hb hbox hg; have hcz6_0 : w5.cell? ⟨gb228, 0, none⟩ = some (.int .i64 a0_0) := (blk_cell BK228.out 0).trans rfl; have hcz6_1 : w5.cell? ⟨gb228, 1, none⟩ = some (.int .i64 a0_1) := (blk_cell BK228.out 1).trans rfl; have hfz6_0 := blk_frozen BK228.out 0; have hfz6_1 := blk_frozen BK228.out 1))
        go_ret
        exact ⟨by first | rfl | (simp [errW_none, errW_some] <;> rfl) | (simp [*, errW_none, errW_some] <;> rfl), by repeat (first | (with_reducible first | exact HB.out | apply below_alloc | apply pw_below_drewN | apply below_drew1 | refine below_set ?_ GE228.out) | exact HB.out)⟩
      · rw [if_neg c4] at H
        have c4b0 : decide ((-50) ≤ a0_1) = false := decide_eq_false c4
        clear c4
        obtain rfl := Option.some.inj H
        go_enter Try.func15, Try.ntmps15
        go_wp2_with (first | ((with_reducible refine gate_dst (N := 1) rfl ?_); refine box_event ?hg (N := 1) ?hd (cs := #[.int .i64 a0_0, .int .i64 a0_1]) (t := 27) ?hr ?_; (case hd => rfl); (case hg => rfl); (case hr => first | (go_simp; done) | (go_simp; rfl)); intro gb228 hg w7 hbox hb; have n0_ := Aside0.mk (below_step (by repeat (first | (with_reducible first | exact HB.out | apply below_alloc | apply pw_below_drewN | apply below_drew1) | exact HB.out)) hb); have n1_ := Aside0.mk (hbox); have n2_ := Aside0.mk ((by rw [hg]; exact (below_size (by repeat (first | (with_reducible first | exact HB.out | apply below_alloc | apply pw_below_drewN | apply below_drew1) | exact HB.out))) : w.heap.size ≤ gb228)); have n3_ := Aside0.mk ((by rw [hg]; exact (below_size (by repeat (first | (with_reducible first | exact HB.out | apply below_alloc | apply pw_below_drewN | apply below_drew1) | exact HB.out))) : w.heap.size ≤ gb228)); clear HB; have HB := n0_; have BK228 := n1_; have GW228 := n2_; have GE228 := n3_; clear n0_ n1_ n2_ n3_; clear hb hbox hg; have hcz8_0 : w7.cell? ⟨gb228, 0, none⟩ = some (.int .i64 a0_0) := (blk_cell BK228.out 0).trans rfl; have hcz8_1 : w7.cell? ⟨gb228, 1, none⟩ = some (.int .i64 a0_1) := (blk_cell BK228.out 1).trans rfl; have hfz8_0 := blk_frozen BK228.out 0; have hfz8_1 := blk_frozen BK228.out 1))
        go_ret
        exact ⟨by first | rfl | (simp [errW_none, errW_some] <;> rfl) | (simp [*, errW_none, errW_some] <;> rfl), by repeat (first | (with_reducible first | exact HB.out | apply below_alloc | apply pw_below_drewN | apply below_drew1 | refine below_set ?_ GE228.out) | exact HB.out)⟩
    · rw [if_neg c3] at H
      have c3b0 : decide (a0_0 ≤ 1000000000) = false := decide_eq_false c3
      clear c3
      obtain rfl := Option.some.inj H
      go_enter Try.func15, Try.ntmps15
      go_wp2_with (first | ((with_reducible refine gate_dst (N := 1) rfl ?_); refine box_event ?hg (N := 1) ?hd (cs := #[.int .i64 a0_0, .int .i64 a0_1]) (t := 27) ?hr ?_; (case hd => rfl); (case hg => rfl); (case hr => first | (go_simp; done) | (go_simp; rfl)); intro gb228 hg w9 hbox hb; have n0_ := Aside0.mk (below_step (by repeat (first | (with_reducible first | exact HB.out | apply below_alloc | apply pw_below_drewN | apply below_drew1) | exact HB.out)) hb); have n1_ := Aside0.mk (hbox); have n2_ := Aside0.mk ((by rw [hg]; exact (below_size (by repeat (first | (with_reducible first | exact HB.out | apply below_alloc | apply pw_below_drewN | apply below_drew1) | exact HB.out))) : w.heap.size ≤ gb228)); have n3_ := Aside0.mk ((by rw [hg]; exact (below_size (by repeat (first | (with_reducible first | exact HB.out | apply below_alloc | apply pw_below_drewN | apply below_drew1) | exact HB.out))) : w.heap.size ≤ gb228)); clear HB; have HB := n0_; have BK228 := n1_; have GW228 := n2_; have GE228 := n3_; clear n0_ n1_ n2_ n3_; clear hb hbox hg; have hcz10_0 : w9.cell? ⟨gb228, 0, none⟩ = some (.int .i64 a0_0) := (blk_cell BK228.out 0).trans rfl; have hcz10_1 : w9.cell? ⟨gb228, 1, none⟩ = some (.int .i64 a0_1) := (blk_cell BK228.out 1).trans rfl; have hfz10_0 := blk_frozen BK228.out 0; have hfz10_1 := blk_frozen BK228.out 1))
      go_ret
      exact ⟨by first | rfl | (simp [errW_none, errW_some] <;> rfl) | (simp [*, errW_none, errW_some] <;> rfl), by repeat (first | (with_reducible first | exact HB.out | apply below_alloc | apply pw_below_drewN | apply below_drew1 | refine below_set ?_ GE228.out) | exact HB.out)⟩
  · rw [if_neg c2] at H
    have c2b0 : decide ((-1000000000) ≤ a0_0) = false := decide_eq_false c2
    clear c2
    obtain rfl := Option.some.inj H
    go_enter Try.func15, Try.ntmps15
    go_wp2_with (first | ((with_reducible refine gate_dst (N := 1) rfl ?_); refine box_event ?hg (N := 1) ?hd (cs := #[.int .i64 a0_0, .int .i64 a0_1]) (t := 27) ?hr ?_; (case hd => rfl); (case hg => rfl); (case hr => first | (go_simp; done) | (go_simp; rfl)); intro gb228 hg w11 hbox hb; have n0_ := Aside0.mk (below_step (by repeat (first | (with_reducible first | exact HB.out | apply below_alloc | apply pw_below_drewN | apply below_drew1) | exact HB.out)) hb); have n1_ := Aside0.mk (hbox); have n2_ := Aside0.mk ((by rw [hg]; exact (below_size (by repeat (first | (with_reducible first | exact HB.out | apply below_alloc | apply pw_below_drewN | apply below_drew1) | exact HB.out))) : w.heap.size ≤ gb228)); have n3_ := Aside0.mk ((by rw [hg]; exact (below_size (by repeat (first | (with_reducible first | exact HB.out | apply below_alloc | apply pw_below_drewN | apply below_drew1) | exact HB.out))) : w.heap.size ≤ gb228)); clear HB; have HB := n0_; have BK228 := n1_; have GW228 := n2_; have GE228 := n3_; clear n0_ n1_ n2_ n3_; clear hb hbox hg; have hcz12_0 : w11.cell? ⟨gb228, 0, none⟩ = some (.int .i64 a0_0) := (blk_cell BK228.out 0).trans rfl; have hcz12_1 : w11.cell? ⟨gb228, 1, none⟩ = some (.int .i64 a0_1) := (blk_cell BK228.out 1).trans rfl; have hfz12_0 := blk_frozen BK228.out 0; have hfz12_1 := blk_frozen BK228.out 1))
    go_ret
    exact ⟨by first | rfl | (simp [errW_none, errW_some] <;> rfl) | (simp [*, errW_none, errW_some] <;> rfl), by repeat (first | (with_reducible first | exact HB.out | apply below_alloc | apply pw_below_drewN | apply below_drew1 | refine below_set ?_ GE228.out) | exact HB.out)⟩
end Go.Proofs.Ytdpihbhkghjclaa.P
end
section
/- The Go functions of this claim as Lean functions, and the proofs that their calls answer so: written by wip/myprint.py over the kit's printer, hand-proved contracts laid in. Conditions: none. -/
namespace Go.Proofs.Ytdpihbhkghjclaa.P
open Go.RowKit Go.Proofs.YtdpihbhkghjclaaW.PrintWords Go.Proofs.YtdpihbhkghjclaaW.PrintLast Go.Proofs.YtdpihbhkghjclaaW.PrintMore
attribute [local go_sem] max2_int min2_int max_two min_two max_three min_three max_four min_four   -- for this text's walks alone
set_option linter.unusedVariables false
set_option linter.unusedSimpArgs false
/-! ### slotmeshref08_Valid: function 61 -/
def slotmeshref08_Valid.f (a0_0 : Int) (a0_1 : Int) (a0_2 : Int) : Option (Bool) := if a0_0 ≥ (-20000000000000) then (if a0_0 ≤ a0_1 then (if a0_1 ≤ 20000000000000 then (if a0_2 ≥ (-2000000000) then (some (decide (a0_2 ≤ 20000000000000))) else (some false)) else (some false)) else (some false)) else (some false)
set_option maxHeartbeats 8000000 in
set_option maxRecDepth 100000 in
theorem slotmeshref08_Valid.calls (a0_0 : Int) (a0_1 : Int) (a0_2 : Int) (r : Bool) (w : World) (h : slotmeshref08_Valid.f a0_0 a0_1 a0_2 = some r) :
    Calls Try.prog 61 #[.agg #[.int .i64 a0_0, .int .i64 a0_1, .int .i64 a0_2]] w fun e w' => e = .returned (.bool r) ∧ Below w.heap.size w w' := by
  have hu23 := Try.underlying23
  have HB := Aside0.mk (Below.refl w.heap.size w)
  have H : (if a0_0 ≥ (-20000000000000) then (if a0_0 ≤ a0_1 then (if a0_1 ≤ 20000000000000 then (if a0_2 ≥ (-2000000000) then (some (decide (a0_2 ≤ 20000000000000))) else (some false)) else (some false)) else (some false)) else (some false)) = some r := h
  clear h
  by_cases c2 : a0_0 ≥ (-20000000000000)
  · rw [if_pos c2] at H
    have c2b0 : decide ((-20000000000000) ≤ a0_0) = true := decide_eq_true c2
    clear c2
    by_cases c3 : a0_0 ≤ a0_1
    · rw [if_pos c3] at H
      have c3b0 : decide (a0_0 ≤ a0_1) = true := decide_eq_true c3
      clear c3
      by_cases c4 : a0_1 ≤ 20000000000000
      · rw [if_pos c4] at H
        have c4b0 : decide (a0_1 ≤ 20000000000000) = true := decide_eq_true c4
        clear c4
        by_cases c5 : a0_2 ≥ (-2000000000)
        · rw [if_pos c5] at H
          have c5b0 : decide ((-2000000000) ≤ a0_2) = true := decide_eq_true c5
          clear c5
          obtain rfl := Option.some.inj H
          go_enter Try.func61, Try.ntmps61
          go_wp2_with (first | ((with_reducible refine gate_dst (N := 1) rfl ?_); refine box_event ?hg (N := 1) ?hd (cs := #[.int .i64 a0_0, .int .i64 a0_1, .int .i64 a0_2]) (t := 23) ?hr ?_; (case hd => rfl); (case hg => rfl); (case hr => first | (go_simp; done) | (go_simp; rfl)); intro gb229 hg w6 hbox hb; have n0_ := Aside0.mk (below_step (by repeat (first | (with_reducible first | exact HB.out | apply below_alloc | apply pw_below_drewN | apply below_drew1) | exact HB.out)) hb); have n1_ := Aside0.mk (hbox); have n2_ := Aside0.mk ((by rw [hg]; exact (below_size (by repeat (first | (with_reducible first | exact HB.out | apply below_alloc | apply pw_below_drewN | apply below_drew1) | exact HB.out))) : w.heap.size ≤ gb229)); have n3_ := Aside0.mk ((by rw [hg]; exact (below_size (by repeat (first | (with_reducible first | exact HB.out | apply below_alloc | apply pw_below_drewN | apply below_drew1) | exact HB.out))) : w.heap.size ≤ gb229)); clear HB; have HB := n0_; have BK229 := n1_; have GW229 := n2_; have GE229 := n3_; clear n0_ n1_ n2_ n3_; clear hb hbox hg; have hcz7_0 : w6.cell? ⟨gb229, 0, none⟩ = some (.int .i64 a0_0) := (blk_cell BK229.out 0).trans rfl; have hcz7_1 : w6.cell? ⟨gb229, 1, none⟩ = some (.int .i64 a0_1) := (blk_cell BK229.out 1).trans rfl; have hcz7_2 : w6.cell? ⟨gb229, 2, none⟩ = some (.int .i64 a0_2) := (blk_cell BK229.out 2).trans rfl; have hfz7_0 := blk_frozen BK229.out 0; have hfz7_1 := blk_frozen BK229.out 1; have hfz7_2 := blk_frozen BK229.out 2))
          go_ret
          exact ⟨by first | rfl | (simp [errW_none, errW_some] <;> rfl) | (simp [*, errW_none, errW_some] <;> rfl), by repeat (first | (with_reducible first | exact HB.out | apply below_alloc | apply pw_below_drewN | apply below_drew1 | refine below_set ?_ GE229.out) | exact HB.out)⟩
        · rw [if_neg c5] at H
          have c5b0 : decide ((-2000000000) ≤ a0_2) = false := decide_eq_false c5
          clear c5
          obtain rfl := Option.some.inj H
          go_enter Try.func61, Try.ntmps61
          go_wp2_with (first | ((with_reducible refine gate_dst (N := 1) rfl ?_); refine box_event ?hg (N := 1) ?hd (cs := #[.int .i64 a0_0, .int .i64 a0_1, .int .i64 a0_2]) (t := 23) ?hr ?_; (case hd => rfl); (case hg => rfl); (case hr => first | (go_simp; done) | (go_simp; rfl)); intro gb229 hg w8 hbox hb; have n0_ := Aside0.mk (below_step (by repeat (first | (with_reducible first | exact HB.out | apply below_alloc | apply pw_below_drewN | apply below_drew1) | exact HB.out)) hb); have n1_ := Aside0.mk (hbox); have n2_ := Aside0.mk ((by rw [hg]; exact (below_size (by repeat (first | (with_reducible first | exact HB.out | apply below_alloc | apply pw_below_drewN | apply below_drew1) | exact HB.out))) : w.heap.size ≤ gb229)); have n3_ := Aside0.mk ((by rw [hg]; exact (below_size (by repeat (first | (with_reducible first | exact HB.out | apply below_alloc | apply pw_below_drewN | apply below_drew1) | exact HB.out))) : w.heap.size ≤ gb229)); clear HB; have HB := n0_; have BK229 := n1_; have GW229 := n2_; have GE229 := n3_; clear n0_ n1_ n2_ n3_; clear hb hbox hg; have hcz9_0 : w8.cell? ⟨gb229, 0, none⟩ = some (.int .i64 a0_0) := (blk_cell BK229.out 0).trans rfl; have hcz9_1 : w8.cell? ⟨gb229, 1, none⟩ = some (.int .i64 a0_1) := (blk_cell BK229.out 1).trans rfl; have hcz9_2 : w8.cell? ⟨gb229, 2, none⟩ = some (.int .i64 a0_2) := (blk_cell BK229.out 2).trans rfl; have hfz9_0 := blk_frozen BK229.out 0; have hfz9_1 := blk_frozen BK229.out 1; have hfz9_2 := blk_frozen BK229.out 2))
          go_ret
          exact ⟨by first | rfl | (simp [errW_none, errW_some] <;> rfl) | (simp [*, errW_none, errW_some] <;> rfl), by repeat (first | (with_reducible first | exact HB.out | apply below_alloc | apply pw_below_drewN | apply below_drew1 | refine below_set ?_ GE229.out) | exact HB.out)⟩
      · rw [if_neg c4] at H
        have c4b0 : decide (a0_1 ≤ 20000000000000) = false := decide_eq_false c4
        clear c4
        obtain rfl := Option.some.inj H
        go_enter Try.func61, Try.ntmps61
        go_wp2_with (first | ((with_reducible refine gate_dst (N := 1) rfl ?_); refine box_event ?hg (N := 1) ?hd (cs := #[.int .i64 a0_0, .int .i64 a0_1, .int .i64 a0_2]) (t := 23) ?hr ?_; (case hd => rfl); (case hg => rfl); (case hr => first | (go_simp; done) | (go_simp; rfl)); intro gb229 hg w10 hbox hb; have n0_ := Aside0.mk (below_step (by repeat (first | (with_reducible first | exact HB.out | apply below_alloc | apply pw_below_drewN | apply below_drew1) | exact HB.out)) hb); have n1_ := Aside0.mk (hbox); have n2_ := Aside0.mk ((by rw [hg]; exact (below_size (by repeat (first | (with_reducible first | exact HB.out | apply below_alloc | apply pw_below_drewN | apply below_drew1) | exact HB.out))) : w.heap.size ≤ gb229)); have n3_ := Aside0.mk ((by rw [hg]; exact (below_size (by repeat (first | (with_reducible first | exact HB.out | apply below_alloc | apply pw_below_drewN | apply below_drew1) | exact HB.out))) : w.heap.size ≤ gb229)); clear HB; have HB := n0_; have BK229 := n1_; have GW229 := n2_; have GE229 := n3_; clear n0_ n1_ n2_ n3_; clear hb hbox hg; have hcz11_0 : w10.cell? ⟨gb229, 0, none⟩ = some (.int .i64 a0_0) := (blk_cell BK229.out 0).trans rfl; have hcz11_1 : w10.cell? ⟨gb229, 1, none⟩ = some (.int .i64 a0_1) := (blk_cell BK229.out 1).trans rfl; have hcz11_2 : w10.cell? ⟨gb229, 2, none⟩ = some (.int .i64 a0_2) := (blk_cell BK229.out 2).trans rfl; have hfz11_0 := blk_frozen BK229.out 0; have hfz11_1 := blk_frozen BK229.out 1; have hfz11_2 := blk_frozen BK229.out 2))
        go_ret
        exact ⟨by first | rfl | (simp [errW_none, errW_some] <;> rfl) | (simp [*, errW_none, errW_some] <;> rfl), by repeat (first | (with_reducible first | exact HB.out | apply below_alloc | apply pw_below_drewN | apply below_drew1 | refine below_set ?_ GE229.out) | exact HB.out)⟩
    · rw [if_neg c3] at H
      have c3b0 : decide (a0_0 ≤ a0_1) = false := decide_eq_false c3
      clear c3
      obtain rfl := Option.some.inj H
      go_enter Try.func61, Try.ntmps61
      go_wp2_with (first | ((with_reducible refine gate_dst (N := 1) rfl ?_); refine box_event ?hg (N := 1) ?hd (cs := #[.int .i64 a0_0, .int .i64 a0_1, .int .i64 a0_2]) (t := 23) ?hr ?_; (case hd => rfl); (case hg => rfl); (case hr => first | (go_simp; done) | (go_simp; rfl)); intro gb229 hg w12 hbox hb; have n0_ := Aside0.mk (below_step (by repeat (first | (with_reducible first | exact HB.out | apply below_alloc | apply pw_below_drewN | apply below_drew1) | exact HB.out)) hb); have n1_ := Aside0.mk (hbox); have n2_ := Aside0.mk ((by rw [hg]; exact (below_size (by repeat (first | (with_reducible first | exact HB.out | apply below_alloc | apply pw_below_drewN | apply below_drew1) | exact HB.out))) : w.heap.size ≤ gb229)); have n3_ := Aside0.mk ((by rw [hg]; exact (below_size (by repeat (first | (with_reducible first | exact HB.out | apply below_alloc | apply pw_below_drewN | apply below_drew1) | exact HB.out))) : w.heap.size ≤ gb229)); clear HB; have HB := n0_; have BK229 := n1_; have GW229 := n2_; have GE229 := n3_; clear n0_ n1_ n2_ n3_; clear hb hbox hg; have hcz13_0 : w12.cell? ⟨gb229, 0, none⟩ = some (.int .i64 a0_0) := (blk_cell BK229.out 0).trans rfl; have hcz13_1 : w12.cell? ⟨gb229, 1, none⟩ = some (.int .i64 a0_1) := (blk_cell BK229.out 1).trans rfl; have hcz13_2 : w12.cell? ⟨gb229, 2, none⟩ = some (.int .i64 a0_2) := (blk_cell BK229.out 2).trans rfl; have hfz13_0 := blk_frozen BK229.out 0; have hfz13_1 := blk_frozen BK229.out 1; have hfz13_2 := blk_frozen BK229.out 2))
      go_ret
      exact ⟨by first | rfl | (simp [errW_none, errW_some] <;> rfl) | (simp [*, errW_none, errW_some] <;> rfl), by repeat (first | (with_reducible first | exact HB.out | apply below_alloc | apply pw_below_drewN | apply below_drew1 | refine below_set ?_ GE229.out) | exact HB.out)⟩
  · rw [if_neg c2] at H
    have c2b0 : decide ((-20000000000000) ≤ a0_0) = false := decide_eq_false c2
    clear c2
    obtain rfl := Option.some.inj H
    go_enter Try.func61, Try.ntmps61
    go_wp2_with (first | ((with_reducible refine gate_dst (N := 1) rfl ?_); refine box_event ?hg (N := 1) ?hd (cs := #[.int .i64 a0_0, .int .i64 a0_1, .int .i64 a0_2]) (t := 23) ?hr ?_; (case hd => rfl); (case hg => rfl); (case hr => first | (go_simp; done) | (go_simp; rfl)); intro gb229 hg w14 hbox hb; have n0_ := Aside0.mk (below_step (by repeat (first | (with_reducible first | exact HB.out | apply below_alloc | apply pw_below_drewN | apply below_drew1) | exact HB.out)) hb); have n1_ := Aside0.mk (hbox); have n2_ := Aside0.mk ((by rw [hg]; exact (below_size (by repeat (first | (with_reducible first | exact HB.out | apply below_alloc | apply pw_below_drewN | apply below_drew1) | exact HB.out))) : w.heap.size ≤ gb229)); have n3_ := Aside0.mk ((by rw [hg]; exact (below_size (by repeat (first | (with_reducible first | exact HB.out | apply below_alloc | apply pw_below_drewN | apply below_drew1) | exact HB.out))) : w.heap.size ≤ gb229)); clear HB; have HB := n0_; have BK229 := n1_; have GW229 := n2_; have GE229 := n3_; clear n0_ n1_ n2_ n3_; clear hb hbox hg; have hcz15_0 : w14.cell? ⟨gb229, 0, none⟩ = some (.int .i64 a0_0) := (blk_cell BK229.out 0).trans rfl; have hcz15_1 : w14.cell? ⟨gb229, 1, none⟩ = some (.int .i64 a0_1) := (blk_cell BK229.out 1).trans rfl; have hcz15_2 : w14.cell? ⟨gb229, 2, none⟩ = some (.int .i64 a0_2) := (blk_cell BK229.out 2).trans rfl; have hfz15_0 := blk_frozen BK229.out 0; have hfz15_1 := blk_frozen BK229.out 1; have hfz15_2 := blk_frozen BK229.out 2))
    go_ret
    exact ⟨by first | rfl | (simp [errW_none, errW_some] <;> rfl) | (simp [*, errW_none, errW_some] <;> rfl), by repeat (first | (with_reducible first | exact HB.out | apply below_alloc | apply pw_below_drewN | apply below_drew1 | refine below_set ?_ GE229.out) | exact HB.out)⟩
end Go.Proofs.Ytdpihbhkghjclaa.P
end
section
/- The Go functions of this claim as Lean functions, and the proofs that their calls answer so: written by wip/myprint.py over the kit's printer, hand-proved contracts laid in. Conditions: none. -/
namespace Go.Proofs.Ytdpihbhkghjclaa.P
open Go.RowKit Go.Proofs.YtdpihbhkghjclaaW.PrintWords Go.Proofs.YtdpihbhkghjclaaW.PrintLast Go.Proofs.YtdpihbhkghjclaaW.PrintMore
attribute [local go_sem] max2_int min2_int max_two min_two max_three min_three max_four min_four   -- for this text's walks alone
set_option linter.unusedVariables false
set_option linter.unusedSimpArgs false
/-! ### slotmeshref09_Valid: function 44 -/
def slotmeshref09_Valid.j0 : Nat → Bool → Bool → Int → Int → Int → Int → Int → Int → Option (Bool)
  | 0, _, _, _, _, _, _, _, _ => none
  | k + 1, x20, x231000, x231001, x231002, x231003, x231004, x231005, x231006 => if x20 = true then (some false) else (if x231000 = true then (if x231004 = 0 then (some true) else (if x231004 ≥ 1 then (if x231004 ≤ 60 then ((slotmeshref08_Valid.f x231001 x231002 x231003).bind fun t231 => (some t231)) else (some false)) else (some false))) else (some (x231004 == 60)))
def slotmeshref09_Valid.f (k : Nat) (a0_0 : Bool) (a0_1 : Int) (a0_2 : Int) (a0_3 : Int) (a0_4 : Int) (a0_5 : Int) (a0_6 : Int) : Option (Bool) := if a0_5 < (-1) then (slotmeshref09_Valid.j0 k true a0_0 a0_1 a0_2 a0_3 a0_4 a0_5 a0_6) else (if a0_5 ≥ 60 then (slotmeshref09_Valid.j0 k true a0_0 a0_1 a0_2 a0_3 a0_4 a0_5 a0_6) else (if a0_6 < 0 then (slotmeshref09_Valid.j0 k true a0_0 a0_1 a0_2 a0_3 a0_4 a0_5 a0_6) else (slotmeshref09_Valid.j0 k (decide (a0_6 > 1000000000)) a0_0 a0_1 a0_2 a0_3 a0_4 a0_5 a0_6)))
set_option maxHeartbeats 8000000 in
set_option maxRecDepth 100000 in
theorem slotmeshref09_Valid.calls (k : Nat) (a0_0 : Bool) (a0_1 : Int) (a0_2 : Int) (a0_3 : Int) (a0_4 : Int) (a0_5 : Int) (a0_6 : Int) (r : Bool) (w : World) (h : slotmeshref09_Valid.f k a0_0 a0_1 a0_2 a0_3 a0_4 a0_5 a0_6 = some r) :
    Calls Try.prog 44 #[.agg #[.bool a0_0, .int .i64 a0_1, .int .i64 a0_2, .int .i64 a0_3, .int .i64 a0_4, .int .i64 a0_5, .int .i64 a0_6]] w fun e w' => e = .returned (.bool r) ∧ Below w.heap.size w w' := by
  have hu25 := Try.underlying25
  have hu23 := Try.underlying23
  have HB := Aside0.mk (Below.refl w.heap.size w)
  have H : (if a0_5 < (-1) then (slotmeshref09_Valid.j0 k true a0_0 a0_1 a0_2 a0_3 a0_4 a0_5 a0_6) else (if a0_5 ≥ 60 then (slotmeshref09_Valid.j0 k true a0_0 a0_1 a0_2 a0_3 a0_4 a0_5 a0_6) else (if a0_6 < 0 then (slotmeshref09_Valid.j0 k true a0_0 a0_1 a0_2 a0_3 a0_4 a0_5 a0_6) else (slotmeshref09_Valid.j0 k (decide (a0_6 > 1000000000)) a0_0 a0_1 a0_2 a0_3 a0_4 a0_5 a0_6)))) = some r := h
  clear h
  have HC2 := Aside0.mk H
  clear H
  go_enter Try.func44, Try.ntmps44
  go_upto_region 1 with (first | ((with_reducible refine gate_dst (N := 1) rfl ?_); refine box_event ?hg (N := 1) ?hd (cs := #[.bool a0_0, .int .i64 a0_1, .int .i64 a0_2, .int .i64 a0_3, .int .i64 a0_4, .int .i64 a0_5, .int .i64 a0_6]) (t := 25) ?hr ?_; (case hd => rfl); (case hg => rfl); (case hr => first | (go_simp; done) | (go_simp; rfl)); intro gb230 hg w3 hbox hb; have n0_ := Aside0.mk (below_step (by repeat (first | (with_reducible first | exact HB.out | apply below_alloc | apply pw_below_drewN | apply below_drew1) | exact HB.out)) hb); have n1_ := Aside0.mk (hbox); have n2_ := Aside0.mk ((by rw [hg]; exact (below_size (by repeat (first | (with_reducible first | exact HB.out | apply below_alloc | apply pw_below_drewN | apply below_drew1) | exact HB.out))) : w.heap.size ≤ gb230)); have n3_ := Aside0.mk ((by rw [hg]; exact (below_size (by repeat (first | (with_reducible first | exact HB.out | apply below_alloc | apply pw_below_drewN | apply below_drew1) | exact HB.out))) : w.heap.size ≤ gb230)); clear HB; have HB := n0_; have BK230 := n1_; have GW230 := n2_; have GE230 := n3_; clear n0_ n1_ n2_ n3_; clear hb hbox hg))
  (try simp only [Act.put, List.setIfInBounds_toArray, List.set_cons_zero, List.set_cons_succ])
  go_cut [20] (fun v20 wc => ∃ (kq : Nat) (x20_1 : Bool), v20 = .bool x20_1 ∧ Aside0 (slotmeshref09_Valid.j0 kq x20_1 a0_0 a0_1 a0_2 a0_3 a0_4 a0_5 a0_6 = some r) ∧ Aside0 (kq ≤ k) ∧ Aside0 (wc.heap[gb230]? = some (.cells #[.bool a0_0, .int .i64 a0_1, .int .i64 a0_2, .int .i64 a0_3, .int .i64 a0_4, .int .i64 a0_5, .int .i64 a0_6] 25 (0, 0))) ∧ Aside0 (Below w.heap.size w wc))
  case first =>
    have H := HC2.out
    clear HC2
    by_cases c4 : a0_5 < (-1)
    · rw [if_pos c4] at H
      have c4b0 : decide (a0_5 < (-1)) = true := decide_eq_true c4
      clear c4
      (first | rw [c4b0] | (simp only [i64_w, i32_w]; rw [c4b0]) | skip)
      have H' := Aside0.mk H
      clear H
      have hcz5_0 : w3.cell? ⟨gb230, 0, none⟩ = some (.bool a0_0) := (blk_cell BK230.out 0).trans rfl
      have hcz5_1 : w3.cell? ⟨gb230, 1, none⟩ = some (.int .i64 a0_1) := (blk_cell BK230.out 1).trans rfl
      have hcz5_2 : w3.cell? ⟨gb230, 2, none⟩ = some (.int .i64 a0_2) := (blk_cell BK230.out 2).trans rfl
      have hcz5_3 : w3.cell? ⟨gb230, 3, none⟩ = some (.int .i64 a0_3) := (blk_cell BK230.out 3).trans rfl
      have hcz5_4 : w3.cell? ⟨gb230, 4, none⟩ = some (.int .i64 a0_4) := (blk_cell BK230.out 4).trans rfl
      have hcz5_5 : w3.cell? ⟨gb230, 5, none⟩ = some (.int .i64 a0_5) := (blk_cell BK230.out 5).trans rfl
      have hcz5_6 : w3.cell? ⟨gb230, 6, none⟩ = some (.int .i64 a0_6) := (blk_cell BK230.out 6).trans rfl
      have hfz5_0 := blk_frozen BK230.out 0
      have hfz5_1 := blk_frozen BK230.out 1
      have hfz5_2 := blk_frozen BK230.out 2
      have hfz5_3 := blk_frozen BK230.out 3
      have hfz5_4 := blk_frozen BK230.out 4
      have hfz5_5 := blk_frozen BK230.out 5
      have hfz5_6 := blk_frozen BK230.out 6
      go_wp2
      go_meet
      case rel => exact ⟨_, (true), (by first | rfl | (simp; done) | (simp [*]; done)), H', ⟨by first | omega | exact Nat.le_refl _⟩, ⟨by (with_reducible repeat (first | refine blk_drewN ?_ _ | refine blk_drew ?_ | refine blk_alloc ?_ _)); exact BK230.out⟩, ⟨by repeat (first | (with_reducible first | exact HB.out | apply below_alloc | apply pw_below_drewN | apply below_drew1 | refine below_set ?_ GE230.out) | exact HB.out)⟩⟩
    · rw [if_neg c4] at H
      have c4b0 : decide (a0_5 < (-1)) = false := decide_eq_false c4
      clear c4
      (first | rw [c4b0] | (simp only [i64_w, i32_w]; rw [c4b0]) | skip)
      by_cases c6 : a0_5 ≥ 60
      · rw [if_pos c6] at H
        have c6b0 : decide (60 ≤ a0_5) = true := decide_eq_true c6
        clear c6
        have H' := Aside0.mk H
        clear H
        have hcz7_0 : w3.cell? ⟨gb230, 0, none⟩ = some (.bool a0_0) := (blk_cell BK230.out 0).trans rfl
        have hcz7_1 : w3.cell? ⟨gb230, 1, none⟩ = some (.int .i64 a0_1) := (blk_cell BK230.out 1).trans rfl
        have hcz7_2 : w3.cell? ⟨gb230, 2, none⟩ = some (.int .i64 a0_2) := (blk_cell BK230.out 2).trans rfl
        have hcz7_3 : w3.cell? ⟨gb230, 3, none⟩ = some (.int .i64 a0_3) := (blk_cell BK230.out 3).trans rfl
        have hcz7_4 : w3.cell? ⟨gb230, 4, none⟩ = some (.int .i64 a0_4) := (blk_cell BK230.out 4).trans rfl
        have hcz7_5 : w3.cell? ⟨gb230, 5, none⟩ = some (.int .i64 a0_5) := (blk_cell BK230.out 5).trans rfl
        have hcz7_6 : w3.cell? ⟨gb230, 6, none⟩ = some (.int .i64 a0_6) := (blk_cell BK230.out 6).trans rfl
        have hfz7_0 := blk_frozen BK230.out 0
        have hfz7_1 := blk_frozen BK230.out 1
        have hfz7_2 := blk_frozen BK230.out 2
        have hfz7_3 := blk_frozen BK230.out 3
        have hfz7_4 := blk_frozen BK230.out 4
        have hfz7_5 := blk_frozen BK230.out 5
        have hfz7_6 := blk_frozen BK230.out 6
        go_wp2
        go_meet
        case rel => exact ⟨_, (true), (by first | rfl | (simp; done) | (simp [*]; done)), H', ⟨by first | omega | exact Nat.le_refl _⟩, ⟨by (with_reducible repeat (first | refine blk_drewN ?_ _ | refine blk_drew ?_ | refine blk_alloc ?_ _)); exact BK230.out⟩, ⟨by repeat (first | (with_reducible first | exact HB.out | apply below_alloc | apply pw_below_drewN | apply below_drew1 | refine below_set ?_ GE230.out) | exact HB.out)⟩⟩
      · rw [if_neg c6] at H
        have c6b0 : decide (60 ≤ a0_5) = false := decide_eq_false c6
        clear c6
        by_cases c8 : a0_6 < 0
        · rw [if_pos c8] at H
          have c8b0 : decide (a0_6 < 0) = true := decide_eq_true c8
          clear c8
          have H' := Aside0.mk H
          clear H
          have hcz9_0 : w3.cell? ⟨gb230, 0, none⟩ = some (.bool a0_0) := (blk_cell BK230.out 0).trans rfl
          have hcz9_1 : w3.cell? ⟨gb230, 1, none⟩ = some (.int .i64 a0_1) := (blk_cell BK230.out 1).trans rfl
          have hcz9_2 : w3.cell? ⟨gb230, 2, none⟩ = some (.int .i64 a0_2) := (blk_cell BK230.out 2).trans rfl
          have hcz9_3 : w3.cell? ⟨gb230, 3, none⟩ = some (.int .i64 a0_3) := (blk_cell BK230.out 3).trans rfl
          have hcz9_4 : w3.cell? ⟨gb230, 4, none⟩ = some (.int .i64 a0_4) := (blk_cell BK230.out 4).trans rfl
          have hcz9_5 : w3.cell? ⟨gb230, 5, none⟩ = some (.int .i64 a0_5) := (blk_cell BK230.out 5).trans rfl
          have hcz9_6 : w3.cell? ⟨gb230, 6, none⟩ = some (.int .i64 a0_6) := (blk_cell BK230.out 6).trans rfl
          have hfz9_0 := blk_frozen BK230.out 0
          have hfz9_1 := blk_frozen BK230.out 1
          have hfz9_2 := blk_frozen BK230.out 2
          have hfz9_3 := blk_frozen BK230.out 3
          have hfz9_4 := blk_frozen BK230.out 4
          have hfz9_5 := blk_frozen BK230.out 5
          have hfz9_6 := blk_frozen BK230.out 6
          go_wp2
          go_meet
          case rel => exact ⟨_, (true), (by first | rfl | (simp; done) | (simp [*]; done)), H', ⟨by first | omega | exact Nat.le_refl _⟩, ⟨by (with_reducible repeat (first | refine blk_drewN ?_ _ | refine blk_drew ?_ | refine blk_alloc ?_ _)); exact BK230.out⟩, ⟨by repeat (first | (with_reducible first | exact HB.out | apply below_alloc | apply pw_below_drewN | apply below_drew1 | refine below_set ?_ GE230.out) | exact HB.out)⟩⟩
        · rw [if_neg c8] at H
          have c8b0 : decide (a0_6 < 0) = false := decide_eq_false c8
          clear c8
          have H' := Aside0.mk H
          clear H
          have hcz10_0 : w3.cell? ⟨gb230, 0, none⟩ = some (.bool a0_0) := (blk_cell BK230.out 0).trans rfl
          have hcz10_1 : w3.cell? ⟨gb230, 1, none⟩ = some (.int .i64 a0_1) := (blk_cell BK230.out 1).trans rfl
          have hcz10_2 : w3.cell? ⟨gb230, 2, none⟩ = some (.int .i64 a0_2) := (blk_cell BK230.out 2).trans rfl
          have hcz10_3 : w3.cell? ⟨gb230, 3, none⟩ = some (.int .i64 a0_3) := (blk_cell BK230.out 3).trans rfl
          have hcz10_4 : w3.cell? ⟨gb230, 4, none⟩ = some (.int .i64 a0_4) := (blk_cell BK230.out 4).trans rfl
          have hcz10_5 : w3.cell? ⟨gb230, 5, none⟩ = some (.int .i64 a0_5) := (blk_cell BK230.out 5).trans rfl
          have hcz10_6 : w3.cell? ⟨gb230, 6, none⟩ = some (.int .i64 a0_6) := (blk_cell BK230.out 6).trans rfl
          have hfz10_0 := blk_frozen BK230.out 0
          have hfz10_1 := blk_frozen BK230.out 1
          have hfz10_2 := blk_frozen BK230.out 2
          have hfz10_3 := blk_frozen BK230.out 3
          have hfz10_4 := blk_frozen BK230.out 4
          have hfz10_5 := blk_frozen BK230.out 5
          have hfz10_6 := blk_frozen BK230.out 6
          go_wp2
          go_meet
          case rel => exact ⟨_, (decide (a0_6 > 1000000000)), (by first | rfl | (simp; done) | (simp [*]; done)), H', ⟨by first | omega | exact Nat.le_refl _⟩, ⟨by (with_reducible repeat (first | refine blk_drewN ?_ _ | refine blk_drew ?_ | refine blk_alloc ?_ _)); exact BK230.out⟩, ⟨by repeat (first | (with_reducible first | exact HB.out | apply below_alloc | apply pw_below_drewN | apply below_drew1 | refine below_set ?_ GE230.out) | exact HB.out)⟩⟩
  case rest =>
    clear HC2
    try clear p2
    try clear c4
    try clear c4b0
    try clear c6
    try clear c6b0
    try clear c8
    try clear c8b0
    try clear hcz10_0
    try clear hcz10_1
    try clear hcz10_2
    try clear hcz10_3
    try clear hcz10_4
    try clear hcz10_5
    try clear hcz10_6
    try clear hcz5_0
    try clear hcz5_1
    try clear hcz5_2
    try clear hcz5_3
    try clear hcz5_4
    try clear hcz5_5
    try clear hcz5_6
    try clear hcz7_0
    try clear hcz7_1
    try clear hcz7_2
    try clear hcz7_3
    try clear hcz7_4
    try clear hcz7_5
    try clear hcz7_6
    try clear hcz9_0
    try clear hcz9_1
    try clear hcz9_2
    try clear hcz9_3
    try clear hcz9_4
    try clear hcz9_5
    try clear hcz9_6
    try clear hfz10_0
    try clear hfz10_1
    try clear hfz10_2
    try clear hfz10_3
    try clear hfz10_4
    try clear hfz10_5
    try clear hfz10_6
    try clear hfz5_0
    try clear hfz5_1
    try clear hfz5_2
    try clear hfz5_3
    try clear hfz5_4
    try clear hfz5_5
    try clear hfz5_6
    try clear hfz7_0
    try clear hfz7_1
    try clear hfz7_2
    try clear hfz7_3
    try clear hfz7_4
    try clear hfz7_5
    try clear hfz7_6
    try clear hfz9_0
    try clear hfz9_1
    try clear hfz9_2
    try clear hfz9_3
    try clear hfz9_4
    try clear hfz9_5
    try clear hfz9_6
    obtain ⟨kq, x20_1, rfl, HA, HJ1, BK230, HB⟩ := hcut
    cases kq with
    | zero => exact absurd HA.out (by simp [slotmeshref09_Valid.j0])
    | succ kj1 =>
      have H := HA.out
      clear HA
      simp only [slotmeshref09_Valid.j0] at H
      by_cases c11 : x20_1 = true
      · subst c11
        have H1 : (some false) = some r := by rw [if_pos rfl] at H; exact H
        clear H
        have H := H1
        clear H1
        obtain rfl := Option.some.inj H
        go_wp2
        go_ret
        exact ⟨by first | rfl | (simp [errW_none, errW_some] <;> rfl) | (simp [*, errW_none, errW_some] <;> rfl), by repeat (first | (with_reducible first | exact HB.out | apply below_alloc | apply pw_below_drewN | apply below_drew1 | refine below_set ?_ GE230.out) | exact HB.out)⟩
      · replace c11 := Bool.eq_false_iff.mpr c11
        subst c11
        have H1 : (if a0_0 = true then (if a0_4 = 0 then (some true) else (if a0_4 ≥ 1 then (if a0_4 ≤ 60 then ((slotmeshref08_Valid.f a0_1 a0_2 a0_3).bind fun t231 => (some t231)) else (some false)) else (some false))) else (some (a0_4 == 60))) = some r := by rw [if_neg (show ¬ (false = true) by decide)] at H; exact H
        clear H
        have H := H1
        clear H1
        by_cases c12 : a0_0 = true
        · subst c12
          have H1 : (if a0_4 = 0 then (some true) else (if a0_4 ≥ 1 then (if a0_4 ≤ 60 then ((slotmeshref08_Valid.f a0_1 a0_2 a0_3).bind fun t231 => (some t231)) else (some false)) else (some false))) = some r := by rw [if_pos rfl] at H; exact H
          clear H
          have H := H1
          clear H1
          by_cases c13 : a0_4 = 0
          · rw [if_pos c13] at H
            have c13b0 : (a0_4 == 0) = true := beq_iff_eq.mpr c13
            have c13b1 : (a0_4 != 0) = false := bne_eq_false_iff_eq.mpr c13
            clear c13
            obtain rfl := Option.some.inj H
            have hcz14_0 : wc.cell? ⟨gb230, 0, none⟩ = some (.bool true) := (blk_cell BK230.out 0).trans rfl
            have hcz14_1 : wc.cell? ⟨gb230, 1, none⟩ = some (.int .i64 a0_1) := (blk_cell BK230.out 1).trans rfl
            have hcz14_2 : wc.cell? ⟨gb230, 2, none⟩ = some (.int .i64 a0_2) := (blk_cell BK230.out 2).trans rfl
            have hcz14_3 : wc.cell? ⟨gb230, 3, none⟩ = some (.int .i64 a0_3) := (blk_cell BK230.out 3).trans rfl
            have hcz14_4 : wc.cell? ⟨gb230, 4, none⟩ = some (.int .i64 a0_4) := (blk_cell BK230.out 4).trans rfl
            have hcz14_5 : wc.cell? ⟨gb230, 5, none⟩ = some (.int .i64 a0_5) := (blk_cell BK230.out 5).trans rfl
            have hcz14_6 : wc.cell? ⟨gb230, 6, none⟩ = some (.int .i64 a0_6) := (blk_cell BK230.out 6).trans rfl
            have hfz14_0 := blk_frozen BK230.out 0
            have hfz14_1 := blk_frozen BK230.out 1
            have hfz14_2 := blk_frozen BK230.out 2
            have hfz14_3 := blk_frozen BK230.out 3
            have hfz14_4 := blk_frozen BK230.out 4
            have hfz14_5 := blk_frozen BK230.out 5
            have hfz14_6 := blk_frozen BK230.out 6
            go_wp2
            go_ret
            exact ⟨by first | rfl | (simp [errW_none, errW_some] <;> rfl) | (simp [*, errW_none, errW_some] <;> rfl), by repeat (first | (with_reducible first | exact HB.out | apply below_alloc | apply pw_below_drewN | apply below_drew1 | refine below_set ?_ GE230.out) | exact HB.out)⟩
          · rw [if_neg c13] at H
            have c13b0 : (a0_4 == 0) = false := beq_eq_false_iff_ne.mpr c13
            have c13b1 : (a0_4 != 0) = true := bne_iff_ne.mpr c13
            by_cases c15 : a0_4 ≥ 1
            · rw [if_pos c15] at H
              have c15b0 : decide (1 ≤ a0_4) = true := decide_eq_true c15
              clear c15
              by_cases c16 : a0_4 ≤ 60
              · rw [if_pos c16] at H
                have c16b0 : decide (a0_4 ≤ 60) = true := decide_eq_true c16
                clear c16
                replace H := Option.bind_eq_some_iff.mp H
                obtain ⟨t231, A170, H⟩ := H
                replace H : (some t231) = some r := H
                have A17 := Aside0.mk A170
                clear A170
                obtain rfl := Option.some.inj H
                have hcz18_0 : wc.cell? ⟨gb230, 0, none⟩ = some (.bool true) := (blk_cell BK230.out 0).trans rfl
                have hcz18_1 : wc.cell? ⟨gb230, 1, none⟩ = some (.int .i64 a0_1) := (blk_cell BK230.out 1).trans rfl
                have hcz18_2 : wc.cell? ⟨gb230, 2, none⟩ = some (.int .i64 a0_2) := (blk_cell BK230.out 2).trans rfl
                have hcz18_3 : wc.cell? ⟨gb230, 3, none⟩ = some (.int .i64 a0_3) := (blk_cell BK230.out 3).trans rfl
                have hcz18_4 : wc.cell? ⟨gb230, 4, none⟩ = some (.int .i64 a0_4) := (blk_cell BK230.out 4).trans rfl
                have hcz18_5 : wc.cell? ⟨gb230, 5, none⟩ = some (.int .i64 a0_5) := (blk_cell BK230.out 5).trans rfl
                have hcz18_6 : wc.cell? ⟨gb230, 6, none⟩ = some (.int .i64 a0_6) := (blk_cell BK230.out 6).trans rfl
                have hfz18_0 := blk_frozen BK230.out 0
                have hfz18_1 := blk_frozen BK230.out 1
                have hfz18_2 := blk_frozen BK230.out 2
                have hfz18_3 := blk_frozen BK230.out 3
                have hfz18_4 := blk_frozen BK230.out 4
                have hfz18_5 := blk_frozen BK230.out 5
                have hfz18_6 := blk_frozen BK230.out 6
                go_wp2_with (first | (go_at_call 61; (with_reducible refine (slotmeshref08_Valid.calls a0_1 a0_2 a0_3 t231 _ A17.out).mono ?_); rintro e w19 ⟨rfl, hb⟩; have n0_ := Aside0.mk (blk_below (g := gb230) (o := .cells #[.bool true, .int .i64 a0_1, .int .i64 a0_2, .int .i64 a0_3, .int .i64 a0_4, .int .i64 a0_5, .int .i64 a0_6] 25 (0, 0)) (by (with_reducible repeat (first | refine blk_drewN ?_ _ | refine blk_drew ?_ | refine blk_alloc ?_ _)); exact BK230.out) hb); have n1_ := Aside0.mk (below_step (by repeat (first | (with_reducible first | exact HB.out | apply below_alloc | apply pw_below_drewN | apply below_drew1 | refine below_set ?_ GE230.out) | exact HB.out)) hb); clear BK230; clear HB; have BK230 := n0_; have HB := n1_; clear n0_ n1_; (try clear hb); (try clear hb2); (try clear hk); (try clear hi)))
                go_ret
                exact ⟨by first | rfl | (simp [errW_none, errW_some] <;> rfl) | (simp [*, errW_none, errW_some] <;> rfl), by repeat (first | (with_reducible first | exact HB.out | apply below_alloc | apply pw_below_drewN | apply below_drew1 | refine below_set ?_ GE230.out) | exact HB.out)⟩
              · rw [if_neg c16] at H
                have c16b0 : decide (a0_4 ≤ 60) = false := decide_eq_false c16
                clear c16
                obtain rfl := Option.some.inj H
                have hcz20_0 : wc.cell? ⟨gb230, 0, none⟩ = some (.bool true) := (blk_cell BK230.out 0).trans rfl
                have hcz20_1 : wc.cell? ⟨gb230, 1, none⟩ = some (.int .i64 a0_1) := (blk_cell BK230.out 1).trans rfl
                have hcz20_2 : wc.cell? ⟨gb230, 2, none⟩ = some (.int .i64 a0_2) := (blk_cell BK230.out 2).trans rfl
                have hcz20_3 : wc.cell? ⟨gb230, 3, none⟩ = some (.int .i64 a0_3) := (blk_cell BK230.out 3).trans rfl
                have hcz20_4 : wc.cell? ⟨gb230, 4, none⟩ = some (.int .i64 a0_4) := (blk_cell BK230.out 4).trans rfl
                have hcz20_5 : wc.cell? ⟨gb230, 5, none⟩ = some (.int .i64 a0_5) := (blk_cell BK230.out 5).trans rfl
                have hcz20_6 : wc.cell? ⟨gb230, 6, none⟩ = some (.int .i64 a0_6) := (blk_cell BK230.out 6).trans rfl
                have hfz20_0 := blk_frozen BK230.out 0
                have hfz20_1 := blk_frozen BK230.out 1
                have hfz20_2 := blk_frozen BK230.out 2
                have hfz20_3 := blk_frozen BK230.out 3
                have hfz20_4 := blk_frozen BK230.out 4
                have hfz20_5 := blk_frozen BK230.out 5
                have hfz20_6 := blk_frozen BK230.out 6
                go_wp2
                go_ret
                exact ⟨by first | rfl | (simp [errW_none, errW_some] <;> rfl) | (simp [*, errW_none, errW_some] <;> rfl), by repeat (first | (with_reducible first | exact HB.out | apply below_alloc | apply pw_below_drewN | apply below_drew1 | refine below_set ?_ GE230.out) | exact HB.out)⟩
            · rw [if_neg c15] at H
              have c15b0 : decide (1 ≤ a0_4) = false := decide_eq_false c15
              clear c15
              obtain rfl := Option.some.inj H
              have hcz21_0 : wc.cell? ⟨gb230, 0, none⟩ = some (.bool true) := (blk_cell BK230.out 0).trans rfl
              have hcz21_1 : wc.cell? ⟨gb230, 1, none⟩ = some (.int .i64 a0_1) := (blk_cell BK230.out 1).trans rfl
              have hcz21_2 : wc.cell? ⟨gb230, 2, none⟩ = some (.int .i64 a0_2) := (blk_cell BK230.out 2).trans rfl
              have hcz21_3 : wc.cell? ⟨gb230, 3, none⟩ = some (.int .i64 a0_3) := (blk_cell BK230.out 3).trans rfl
              have hcz21_4 : wc.cell? ⟨gb230, 4, none⟩ = some (.int .i64 a0_4) := (blk_cell BK230.out 4).trans rfl
              have hcz21_5 : wc.cell? ⟨gb230, 5, none⟩ = some (.int .i64 a0_5) := (blk_cell BK230.out 5).trans rfl
              have hcz21_6 : wc.cell? ⟨gb230, 6, none⟩ = some (.int .i64 a0_6) := (blk_cell BK230.out 6).trans rfl
              have hfz21_0 := blk_frozen BK230.out 0
              have hfz21_1 := blk_frozen BK230.out 1
              have hfz21_2 := blk_frozen BK230.out 2
              have hfz21_3 := blk_frozen BK230.out 3
              have hfz21_4 := blk_frozen BK230.out 4
              have hfz21_5 := blk_frozen BK230.out 5
              have hfz21_6 := blk_frozen BK230.out 6
              go_wp2
              go_ret
              exact ⟨by first | rfl | (simp [errW_none, errW_some] <;> rfl) | (simp [*, errW_none, errW_some] <;> rfl), by repeat (first | (with_reducible first | exact HB.out | apply below_alloc | apply pw_below_drewN | apply below_drew1 | refine below_set ?_ GE230.out) | exact HB.out)⟩
        · replace c12 := Bool.eq_false_iff.mpr c12
          subst c12
          have H1 : (some (a0_4 == 60)) = some r := by rw [if_neg (show ¬ (false = true) by decide)] at H; exact H
          clear H
          have H := H1
          clear H1
          obtain rfl := Option.some.inj H
          have hcz22_0 : wc.cell? ⟨gb230, 0, none⟩ = some (.bool false) := (blk_cell BK230.out 0).trans rfl
          have hcz22_1 : wc.cell? ⟨gb230, 1, none⟩ = some (.int .i64 a0_1) := (blk_cell BK230.out 1).trans rfl
          have hcz22_2 : wc.cell? ⟨gb230, 2, none⟩ = some (.int .i64 a0_2) := (blk_cell BK230.out 2).trans rfl
          have hcz22_3 : wc.cell? ⟨gb230, 3, none⟩ = some (.int .i64 a0_3) := (blk_cell BK230.out 3).trans rfl
          have hcz22_4 : wc.cell? ⟨gb230, 4, none⟩ = some (.int .i64 a0_4) := (blk_cell BK230.out 4).trans rfl
          have hcz22_5 : wc.cell? ⟨gb230, 5, none⟩ = some (.int .i64 a0_5) := (blk_cell BK230.out 5).trans rfl
          have hcz22_6 : wc.cell? ⟨gb230, 6, none⟩ = some (.int .i64 a0_6) := (blk_cell BK230.out 6).trans rfl
          have hfz22_0 := blk_frozen BK230.out 0
          have hfz22_1 := blk_frozen BK230.out 1
          have hfz22_2 := blk_frozen BK230.out 2
          have hfz22_3 := blk_frozen BK230.out 3
          have hfz22_4 := blk_frozen BK230.out 4
          have hfz22_5 := blk_frozen BK230.out 5
          have hfz22_6 := blk_frozen BK230.out 6
          go_wp2
          go_ret
          exact ⟨by first | rfl | (simp [errW_none, errW_some] <;> rfl) | (simp [*, errW_none, errW_some] <;> rfl), by repeat (first | (with_reducible first | exact HB.out | apply below_alloc | apply pw_below_drewN | apply below_drew1 | refine below_set ?_ GE230.out) | exact HB.out)⟩
end Go.Proofs.Ytdpihbhkghjclaa.P
end
section
/- The Go functions of this claim as Lean functions, and the proofs that their calls answer so: written by wip/myprint.py over the kit's printer, hand-proved contracts laid in. Conditions: none. -/
namespace Go.Proofs.Ytdpihbhkghjclaa.P
open Go.RowKit Go.Proofs.YtdpihbhkghjclaaW.PrintWords Go.Proofs.YtdpihbhkghjclaaW.PrintLast Go.Proofs.YtdpihbhkghjclaaW.PrintMore
attribute [local go_sem] max2_int min2_int max_two min_two max_three min_three max_four min_four   -- for this text's walks alone
set_option linter.unusedVariables false
set_option linter.unusedSimpArgs false
/-! ### slotmeshref09_Root: function 62 -/
def slotmeshref09_Root.f (a0_0 : Bool) (a0_1 : Int) (a0_2 : Int) (a0_3 : Int) (a0_4 : Int) (a0_5 : Int) (a0_6 : Int) : Option (Bool) := if a0_0 = true then (some (a0_4 == 0)) else (some false)
set_option maxHeartbeats 8000000 in
set_option maxRecDepth 100000 in
theorem slotmeshref09_Root.calls (a0_0 : Bool) (a0_1 : Int) (a0_2 : Int) (a0_3 : Int) (a0_4 : Int) (a0_5 : Int) (a0_6 : Int) (r : Bool) (w : World) (h : slotmeshref09_Root.f a0_0 a0_1 a0_2 a0_3 a0_4 a0_5 a0_6 = some r) :
    Calls Try.prog 62 #[.agg #[.bool a0_0, .int .i64 a0_1, .int .i64 a0_2, .int .i64 a0_3, .int .i64 a0_4, .int .i64 a0_5, .int .i64 a0_6]] w fun e w' => e = .returned (.bool r) ∧ Below w.heap.size w w' := by
  have hu25 := Try.underlying25
  have HB := Aside0.mk (Below.refl w.heap.size w)
  have H : (if a0_0 = true then (some (a0_4 == 0)) else (some false)) = some r := h
  clear h
  by_cases c2 : a0_0 = true
  · subst c2
    have H1 : (some (a0_4 == 0)) = some r := by rw [if_pos rfl] at H; exact H
    clear H
    have H := H1
    clear H1
    obtain rfl := Option.some.inj H
    go_enter Try.func62, Try.ntmps62
    go_wp2_with (first | ((with_reducible refine gate_dst (N := 1) rfl ?_); refine box_event ?hg (N := 1) ?hd (cs := #[.bool true, .int .i64 a0_1, .int .i64 a0_2, .int .i64 a0_3, .int .i64 a0_4, .int .i64 a0_5, .int .i64 a0_6]) (t := 25) ?hr ?_; (case hd => rfl); (case hg => rfl); (case hr => first | (go_simp; done) | (go_simp; rfl)); intro gb232 hg w3 hbox hb; have n0_ := Aside0.mk (below_step (by repeat (first | (with_reducible first | exact HB.out | apply below_alloc | apply pw_below_drewN | apply below_drew1) | exact HB.out)) hb); have n1_ := Aside0.mk (hbox); have n2_ := Aside0.mk ((by rw [hg]; exact (below_size (by repeat (first | (with_reducible first | exact HB.out | apply below_alloc | apply pw_below_drewN | apply below_drew1) | exact HB.out))) : w.heap.size ≤ gb232)); have n3_ := Aside0.mk ((by rw [hg]; exact (below_size (by repeat (first | (with_reducible first | exact HB.out | apply below_alloc | apply pw_below_drewN | apply below_drew1) | exact HB.out))) : w.heap.size ≤ gb232)); clear HB; have HB := n0_; have BK232 := n1_; have GW232 := n2_; have GE232 := n3_; clear n0_ n1_ n2_ n3_; clear hb hbox hg; have hcz4_0 : w3.cell? ⟨gb232, 0, none⟩ = some (.bool true) := (blk_cell BK232.out 0).trans rfl; have hcz4_1 : w3.cell? ⟨gb232, 1, none⟩ = some (.int .i64 a0_1) := (blk_cell BK232.out 1).trans rfl; have hcz4_2 : w3.cell? ⟨gb232, 2, none⟩ = some (.int .i64 a0_2) := (blk_cell BK232.out 2).trans rfl; have hcz4_3 : w3.cell? ⟨gb232, 3, none⟩ = some (.int .i64 a0_3) := (blk_cell BK232.out 3).trans rfl; have hcz4_4 : w3.cell? ⟨gb232, 4, none⟩ = some (.int .i64 a0_4) := (blk_cell BK232.out 4).trans rfl; have hcz4_5 : w3.cell? ⟨gb232, 5, none⟩ = some (.int .i64 a0_5) := (blk_cell BK232.out 5).trans rfl; have hcz4_6 : w3.cell? ⟨gb232, 6, none⟩ = some (.int .i64 a0_6) := (blk_cell BK232.out 6).trans rfl; have hfz4_0 := blk_frozen BK232.out 0; have hfz4_1 := blk_frozen BK232.out 1; have hfz4_2 := blk_frozen BK232.out 2; have hfz4_3 := blk_frozen BK232.out 3; have hfz4_4 := blk_frozen BK232.out 4; have hfz4_5 := blk_frozen BK232.out 5; have hfz4_6 := blk_frozen BK232.out 6))
    go_ret
    exact ⟨by first | rfl | (simp [errW_none, errW_some] <;> rfl) | (simp [*, errW_none, errW_some] <;> rfl), by repeat (first | (with_reducible first | exact HB.out | apply below_alloc | apply pw_below_drewN | apply below_drew1 | refine below_set ?_ GE232.out) | exact HB.out)⟩
  · replace c2 := Bool.eq_false_iff.mpr c2
    subst c2
    have H1 : (some false) = some r := by rw [if_neg (show ¬ (false = true) by decide)] at H; exact H
    clear H
    have H := H1
    clear H1
    obtain rfl := Option.some.inj H
    go_enter Try.func62, Try.ntmps62
    go_wp2_with (first | ((with_reducible refine gate_dst (N := 1) rfl ?_); refine box_event ?hg (N := 1) ?hd (cs := #[.bool false, .int .i64 a0_1, .int .i64 a0_2, .int .i64 a0_3, .int .i64 a0_4, .int .i64 a0_5, .int .i64 a0_6]) (t := 25) ?hr ?_; (case hd => rfl); (case hg => rfl); (case hr => first | (go_simp; done) | (go_simp; rfl)); intro gb232 hg w5 hbox hb; have n0_ := Aside0.mk (below_step (by repeat (first | (with_reducible first | exact HB.out | apply below_alloc | apply pw_below_drewN | apply below_drew1) | exact HB.out)) hb); have n1_ := Aside0.mk (hbox); have n2_ := Aside0.mk ((by rw [hg]; exact (below_size (by repeat (first | (with_reducible first | exact HB.out | apply below_alloc | apply pw_below_drewN | apply below_drew1) | exact HB.out))) : w.heap.size ≤ gb232)); have n3_ := Aside0.mk ((by rw [hg]; exact (below_size (by repeat (first | (with_reducible first | exact HB.out | apply below_alloc | apply pw_below_drewN | apply below_drew1) | exact HB.out))) : w.heap.size ≤ gb232)); clear HB; have HB := n0_; have BK232 := n1_; have GW232 := n2_; have GE232 := n3_; clear n0_ n1_ n2_ n3_; clear hb hbox hg; have hcz6_0 : w5.cell? ⟨gb232, 0, none⟩ = some (.bool false) := (blk_cell BK232.out 0).trans rfl; have hcz6_1 : w5.cell? ⟨gb232, 1, none⟩ = some (.int .i64 a0_1) := (blk_cell BK232.out 1).trans rfl; have hcz6_2 : w5.cell? ⟨gb232, 2, none⟩ = some (.int .i64 a0_2) := (blk_cell BK232.out 2).trans rfl; have hcz6_3 : w5.cell? ⟨gb232, 3, none⟩ = some (.int .i64 a0_3) := (blk_cell BK232.out 3).trans rfl; have hcz6_4 : w5.cell? ⟨gb232, 4, none⟩ = some (.int .i64 a0_4) := (blk_cell BK232.out 4).trans rfl; have hcz6_5 : w5.cell? ⟨gb232, 5, none⟩ = some (.int .i64 a0_5) := (blk_cell BK232.out 5).trans rfl; have hcz6_6 : w5.cell? ⟨gb232, 6, none⟩ = some (.int .i64 a0_6) := (blk_cell BK232.out 6).trans rfl; have hfz6_0 := blk_frozen BK232.out 0; have hfz6_1 := blk_frozen BK232.out 1; have hfz6_2 := blk_frozen BK232.out 2; have hfz6_3 := blk_frozen BK232.out 3; have hfz6_4 := blk_frozen BK232.out 4; have hfz6_5 := blk_frozen BK232.out 5; have hfz6_6 := blk_frozen BK232.out 6))
    go_ret
    exact ⟨by first | rfl | (simp [errW_none, errW_some] <;> rfl) | (simp [*, errW_none, errW_some] <;> rfl), by repeat (first | (with_reducible first | exact HB.out | apply below_alloc | apply pw_below_drewN | apply below_drew1 | refine below_set ?_ GE232.out) | exact HB.out)⟩
end Go.Proofs.Ytdpihbhkghjclaa.P
end
section
/- The Go functions of this claim as Lean functions, and the proofs that their calls answer so: written by wip/myprint.py over the kit's printer, hand-proved contracts laid in. Conditions: none. -/
namespace Go.Proofs.Ytdpihbhkghjclaa.P
open Go.RowKit Go.Proofs.YtdpihbhkghjclaaW.PrintWords Go.Proofs.YtdpihbhkghjclaaW.PrintLast Go.Proofs.YtdpihbhkghjclaaW.PrintMore
attribute [local go_sem] max2_int min2_int max_two min_two max_three min_three max_four min_four   -- for this text's walks alone
set_option linter.unusedVariables false
set_option linter.unusedSimpArgs false
/-! ### slotmeshref08_More: function 67 -/
def slotmeshref08_More.f (a0 : Int) : Option (Int) := some (wrap64 ((wrap64 (Int.tdiv (wrap64 ((wrap64 (a0 * 51)) + 999999)) 1000000)) + 1))
set_option maxHeartbeats 8000000 in
set_option maxRecDepth 100000 in
theorem slotmeshref08_More.calls (a0 : Int) (r : Int) (w : World) (h : slotmeshref08_More.f a0 = some r) :
    Calls Try.prog 67 #[.int .i64 a0] w fun e w' => e = .returned (.int .i64 r) ∧ Drawn0 w w' := by
  have H : (some (wrap64 ((wrap64 (Int.tdiv (wrap64 ((wrap64 (a0 * 51)) + 999999)) 1000000)) + 1))) = some r := h
  clear h
  obtain rfl := Option.some.inj H
  go_enter Try.func67, Try.ntmps67
  go_wp2
  go_ret
  exact ⟨by first | rfl | (simp; done) | (simp [*]; done), by repeat (first | exact Drawn0.refl _ | apply Drawn0.step)⟩
end Go.Proofs.Ytdpihbhkghjclaa.P
end
section
/- The Go functions of this claim as Lean functions, and the proofs that their calls answer so: written by wip/myprint.py over the kit's printer, hand-proved contracts laid in. Conditions: none. -/
namespace Go.Proofs.Ytdpihbhkghjclaa.P
open Go.RowKit Go.Proofs.YtdpihbhkghjclaaW.PrintWords Go.Proofs.YtdpihbhkghjclaaW.PrintLast Go.Proofs.YtdpihbhkghjclaaW.PrintMore
attribute [local go_sem] max2_int min2_int max_two min_two max_three min_three max_four min_four   -- for this text's walks alone
set_option linter.unusedVariables false
set_option linter.unusedSimpArgs false
/-! ### slotmeshref09_Half: function 64 -/
def slotmeshref09_Half.f (a0_0 : Int) (a0_1 : Int) (a0_2 : Int) : Option (Int) := some (wrap64 (Int.tdiv (wrap64 ((wrap64 (a0_1 - a0_0)) + 1)) 2))
set_option maxHeartbeats 8000000 in
set_option maxRecDepth 100000 in
theorem slotmeshref09_Half.calls (a0_0 : Int) (a0_1 : Int) (a0_2 : Int) (r : Int) (w : World) (h : slotmeshref09_Half.f a0_0 a0_1 a0_2 = some r) :
    Calls Try.prog 64 #[.agg #[.int .i64 a0_0, .int .i64 a0_1, .int .i64 a0_2]] w fun e w' => e = .returned (.int .i64 r) ∧ Below w.heap.size w w' := by
  have hu23 := Try.underlying23
  have HB := Aside0.mk (Below.refl w.heap.size w)
  have H : (some (wrap64 (Int.tdiv (wrap64 ((wrap64 (a0_1 - a0_0)) + 1)) 2))) = some r := h
  clear h
  obtain rfl := Option.some.inj H
  go_enter Try.func64, Try.ntmps64
  go_wp2_with (first | ((with_reducible refine gate_dst (N := 1) rfl ?_); refine box_event ?hg (N := 1) ?hd (cs := #[.int .i64 a0_0, .int .i64 a0_1, .int .i64 a0_2]) (t := 23) ?hr ?_; (case hd => rfl); (case hg => rfl); (case hr => first | (go_simp; done) | (go_simp; rfl)); intro gb239 hg w2 hbox hb; have n0_ := Aside0.mk (below_step (by repeat (first | (with_reducible first | exact HB.out | apply below_alloc | apply pw_below_drewN | apply below_drew1) | exact HB.out)) hb); have n1_ := Aside0.mk (hbox); have n2_ := Aside0.mk ((by rw [hg]; exact (below_size (by repeat (first | (with_reducible first | exact HB.out | apply below_alloc | apply pw_below_drewN | apply below_drew1) | exact HB.out))) : w.heap.size ≤ gb239)); have n3_ := Aside0.mk ((by rw [hg]; exact (below_size (by repeat (first | (with_reducible first | exact HB.out | apply below_alloc | apply pw_below_drewN | apply below_drew1) | exact HB.out))) : w.heap.size ≤ gb239)); clear HB; have HB := n0_; have BK239 := n1_; have GW239 := n2_; have GE239 := n3_; clear n0_ n1_ n2_ n3_; clear hb hbox hg; have hcz3_0 : w2.cell? ⟨gb239, 0, none⟩ = some (.int .i64 a0_0) := (blk_cell BK239.out 0).trans rfl; have hcz3_1 : w2.cell? ⟨gb239, 1, none⟩ = some (.int .i64 a0_1) := (blk_cell BK239.out 1).trans rfl; have hcz3_2 : w2.cell? ⟨gb239, 2, none⟩ = some (.int .i64 a0_2) := (blk_cell BK239.out 2).trans rfl; have hfz3_0 := blk_frozen BK239.out 0; have hfz3_1 := blk_frozen BK239.out 1; have hfz3_2 := blk_frozen BK239.out 2))
  go_ret
  exact ⟨by first | rfl | (simp [errW_none, errW_some] <;> rfl) | (simp [*, errW_none, errW_some] <;> rfl), by repeat (first | (with_reducible first | exact HB.out | apply below_alloc | apply pw_below_drewN | apply below_drew1 | refine below_set ?_ GE239.out) | exact HB.out)⟩
end Go.Proofs.Ytdpihbhkghjclaa.P
end
