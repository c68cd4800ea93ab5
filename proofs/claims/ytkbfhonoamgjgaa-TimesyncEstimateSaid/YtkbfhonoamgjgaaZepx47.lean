/- A claim's own texts, laid together by wip/zip.py without what the claim does not use. Conditions: none. -/
import Derived.Test.YtkbfhonoamgjgaaZepx0
import Derived.Test.YtkbfhonoamgjgaaZepx13
import Derived.Test.YtkbfhonoamgjgaaZepx15
import Derived.Test.YtkbfhonoamgjgaaZepx18
import Derived.Test.YtkbfhonoamgjgaaZepx20
import Derived.Test.YtkbfhonoamgjgaaZepx23
import Derived.Test.YtkbfhonoamgjgaaZepx43
import Derived.Test.YtkbfhonoamgjgaaZepx45
section
/- The Go functions of this claim as Lean functions, and the proofs that their calls answer so: written by wip/myprint.py over the kit's printer, hand-proved contracts laid in. Conditions: none. -/
namespace Go.Proofs.Ytkbfhonoamgjgaa.P
open Go.RowKit Go.Proofs.YtkbfhonoamgjgaaW.PrintWords Go.Proofs.YtkbfhonoamgjgaaW.PrintLast Go.Proofs.YtkbfhonoamgjgaaW.PrintMore
attribute [local go_sem] max2_int min2_int max_two min_two max_three min_three max_four min_four   -- for this text's walks alone
set_option linter.unusedVariables false
set_option linter.unusedSimpArgs false
/-! ### slotmeshlaw09_TimesyncEstimate: function 10 -/
mutual
def slotmeshlaw09_TimesyncEstimate.j0 : Nat → Int → Int → Bool → Bool → Bool → Int → Int → Int → Int → Int → Int → Int → Int → Option (Bool)
  | 0, _, _, _, _, _, _, _, _, _, _, _, _, _ => none
  | k + 1, x2, x3, x9, x56, x577000, x577001, x577002, x577003, x577004, x577005, x577006, x578000, x578001 => if x56 = true then (some x9) else ((clock_Show.f x578000 x578001 (wrap64 (x2 + x3))).bind fun bt582 => ((timesync_Bound.f k x577000 x577001 x577002 x577003 x577004 x577005 x577006 bt582.1).bind fun bt584 => ((bound_Grow.f k x577001 x577002 x577003 bt582.1).bind fun bt586 => (if bt582.2 = 0 then (if bt584.2 = 0 then (slotmeshlaw09_TimesyncEstimate.j1 k x2 x3 x9 bt582.1 bt582.2 bt584.1 bt584.2 bt586.2.2.2 (bt586.2.2.2 != 0) bt586.1 bt586.2.1 bt586.2.2.1) else (slotmeshlaw09_TimesyncEstimate.j1 k x2 x3 x9 bt582.1 bt582.2 bt584.1 bt584.2 bt586.2.2.2 true bt586.1 bt586.2.1 bt586.2.2.1)) else (slotmeshlaw09_TimesyncEstimate.j1 k x2 x3 x9 bt582.1 bt582.2 bt584.1 bt584.2 bt586.2.2.2 true bt586.1 bt586.2.1 bt586.2.2.1)))))
def slotmeshlaw09_TimesyncEstimate.j1 : Nat → Int → Int → Bool → Int → Int → Int → Int → Int → Bool → Int → Int → Int → Option (Bool)
  | 0, _, _, _, _, _, _, _, _, _, _, _, _ => none
  | k + 1, x2, x3, x9, x10, x11, x12, x13, x15, x88, x591000, x591001, x591002 => if x88 = true then (if x9 = true then (if x11 = 0 then (if x13 = x15 then (some true) else (some (x13 == 16))) else (none)) else (none)) else (if (wrap64 (x591000 + x591001)) < 0 then (if x9 = true then (if (wrap64 ((wrap64 (x2 + x3)) - (wrap64 (x10 + (wrap64 (Int.tdiv (wrap64 ((wrap64 (x591000 + x591001)) - 1)) 2)))))) ≤ x12 then (some (decide ((wrap64 ((wrap64 ((wrap64 (x10 + (wrap64 (Int.tdiv (wrap64 ((wrap64 (x591000 + x591001)) - 1)) 2)))) - x2)) - x3)) ≤ x12))) else (none)) else (none)) else (if x9 = true then (if (wrap64 ((wrap64 (x2 + x3)) - (wrap64 (x10 + (wrap64 (Int.tdiv (wrap64 (x591000 + x591001)) 2)))))) ≤ x12 then (some (decide ((wrap64 ((wrap64 ((wrap64 (x10 + (wrap64 (Int.tdiv (wrap64 (x591000 + x591001)) 2)))) - x2)) - x3)) ≤ x12))) else (none)) else (none)))
end
def slotmeshlaw09_TimesyncEstimate.f (k : Nat) (a0_0 : Bool) (a0_1 : Int) (a0_2 : Int) (a0_3 : Int) (a0_4 : Int) (a0_5 : Int) (a0_6 : Int) (a1_0 : Int) (a1_1 : Int) (a2 : Int) (a3 : Int) : Option (Bool) := (slotmeshlaw09_head.f k).bind fun t578 => (if a3 < 0 then (slotmeshlaw09_TimesyncEstimate.j0 k a2 a3 t578 true a0_0 a0_1 a0_2 a0_3 a0_4 a0_5 a0_6 a1_0 a1_1) else (if a2 < 0 then (slotmeshlaw09_TimesyncEstimate.j0 k a2 a3 t578 true a0_0 a0_1 a0_2 a0_3 a0_4 a0_5 a0_6 a1_0 a1_1) else (if a2 > 10000000000000 then (slotmeshlaw09_TimesyncEstimate.j0 k a2 a3 t578 true a0_0 a0_1 a0_2 a0_3 a0_4 a0_5 a0_6 a1_0 a1_1) else (if a3 > (wrap64 (10000000000000 - a2)) then (slotmeshlaw09_TimesyncEstimate.j0 k a2 a3 t578 true a0_0 a0_1 a0_2 a0_3 a0_4 a0_5 a0_6 a1_0 a1_1) else ((slotmeshref09_Valid.f k a0_0 a0_1 a0_2 a0_3 a0_4 a0_5 a0_6).bind fun t579 => (if t579 = true then (if a0_0 = true then ((slotmeshref09_Root.f a0_0 a0_1 a0_2 a0_3 a0_4 a0_5 a0_6).bind fun t580 => (if t580 = true then (slotmeshlaw09_TimesyncEstimate.j0 k a2 a3 t578 true a0_0 a0_1 a0_2 a0_3 a0_4 a0_5 a0_6 a1_0 a1_1) else ((slotmeshlaw09_holds.f a0_0 a0_1 a0_2 a0_3 a0_4 a0_5 a0_6 a1_0 a1_1 a2).bind fun t581 => (slotmeshlaw09_TimesyncEstimate.j0 k a2 a3 t578 (!t581) a0_0 a0_1 a0_2 a0_3 a0_4 a0_5 a0_6 a1_0 a1_1)))) else (slotmeshlaw09_TimesyncEstimate.j0 k a2 a3 t578 true a0_0 a0_1 a0_2 a0_3 a0_4 a0_5 a0_6 a1_0 a1_1)) else (slotmeshlaw09_TimesyncEstimate.j0 k a2 a3 t578 true a0_0 a0_1 a0_2 a0_3 a0_4 a0_5 a0_6 a1_0 a1_1)))))))
set_option maxHeartbeats 8000000 in
set_option maxRecDepth 100000 in
theorem slotmeshlaw09_TimesyncEstimate.calls (k : Nat) (a0_0 : Bool) (a0_1 : Int) (a0_2 : Int) (a0_3 : Int) (a0_4 : Int) (a0_5 : Int) (a0_6 : Int) (a1_0 : Int) (a1_1 : Int) (a2 : Int) (a3 : Int) (r : Bool) (w : World) (h : slotmeshlaw09_TimesyncEstimate.f k a0_0 a0_1 a0_2 a0_3 a0_4 a0_5 a0_6 a1_0 a1_1 a2 a3 = some r) :
    Calls Try.prog 10 #[.agg #[.bool a0_0, .int .i64 a0_1, .int .i64 a0_2, .int .i64 a0_3, .int .i64 a0_4, .int .i64 a0_5, .int .i64 a0_6], .agg #[.int .i64 a1_0, .int .i64 a1_1], .int .i64 a2, .int .i64 a3] w fun e w' => e = .returned (.bool r) ∧ Below w.heap.size w w' := by
  have hu25 := Try.underlying25
  have hu47 := Try.underlying47
  have hu23 := Try.underlying23
  have HB := Aside0.mk (Below.refl w.heap.size w)
  have H : ((slotmeshlaw09_head.f k).bind fun t578 => (if a3 < 0 then (slotmeshlaw09_TimesyncEstimate.j0 k a2 a3 t578 true a0_0 a0_1 a0_2 a0_3 a0_4 a0_5 a0_6 a1_0 a1_1) else (if a2 < 0 then (slotmeshlaw09_TimesyncEstimate.j0 k a2 a3 t578 true a0_0 a0_1 a0_2 a0_3 a0_4 a0_5 a0_6 a1_0 a1_1) else (if a2 > 10000000000000 then (slotmeshlaw09_TimesyncEstimate.j0 k a2 a3 t578 true a0_0 a0_1 a0_2 a0_3 a0_4 a0_5 a0_6 a1_0 a1_1) else (if a3 > (wrap64 (10000000000000 - a2)) then (slotmeshlaw09_TimesyncEstimate.j0 k a2 a3 t578 true a0_0 a0_1 a0_2 a0_3 a0_4 a0_5 a0_6 a1_0 a1_1) else ((slotmeshref09_Valid.f k a0_0 a0_1 a0_2 a0_3 a0_4 a0_5 a0_6).bind fun t579 => (if t579 = true then (if a0_0 = true then ((slotmeshref09_Root.f a0_0 a0_1 a0_2 a0_3 a0_4 a0_5 a0_6).bind fun t580 => (if t580 = true then (slotmeshlaw09_TimesyncEstimate.j0 k a2 a3 t578 true a0_0 a0_1 a0_2 a0_3 a0_4 a0_5 a0_6 a1_0 a1_1) else ((slotmeshlaw09_holds.f a0_0 a0_1 a0_2 a0_3 a0_4 a0_5 a0_6 a1_0 a1_1 a2).bind fun t581 => (slotmeshlaw09_TimesyncEstimate.j0 k a2 a3 t578 (!t581) a0_0 a0_1 a0_2 a0_3 a0_4 a0_5 a0_6 a1_0 a1_1)))) else (slotmeshlaw09_TimesyncEstimate.j0 k a2 a3 t578 true a0_0 a0_1 a0_2 a0_3 a0_4 a0_5 a0_6 a1_0 a1_1)) else (slotmeshlaw09_TimesyncEstimate.j0 k a2 a3 t578 true a0_0 a0_1 a0_2 a0_3 a0_4 a0_5 a0_6 a1_0 a1_1)))))))) = some r := h
  clear h
  replace H := Option.bind_eq_some_iff.mp H
  obtain ⟨t578, A50, H⟩ := H
  replace H : (if a3 < 0 then (slotmeshlaw09_TimesyncEstimate.j0 k a2 a3 t578 true a0_0 a0_1 a0_2 a0_3 a0_4 a0_5 a0_6 a1_0 a1_1) else (if a2 < 0 then (slotmeshlaw09_TimesyncEstimate.j0 k a2 a3 t578 true a0_0 a0_1 a0_2 a0_3 a0_4 a0_5 a0_6 a1_0 a1_1) else (if a2 > 10000000000000 then (slotmeshlaw09_TimesyncEstimate.j0 k a2 a3 t578 true a0_0 a0_1 a0_2 a0_3 a0_4 a0_5 a0_6 a1_0 a1_1) else (if a3 > (wrap64 (10000000000000 - a2)) then (slotmeshlaw09_TimesyncEstimate.j0 k a2 a3 t578 true a0_0 a0_1 a0_2 a0_3 a0_4 a0_5 a0_6 a1_0 a1_1) else ((slotmeshref09_Valid.f k a0_0 a0_1 a0_2 a0_3 a0_4 a0_5 a0_6).bind fun t579 => (if t579 = true then (if a0_0 = true then ((slotmeshref09_Root.f a0_0 a0_1 a0_2 a0_3 a0_4 a0_5 a0_6).bind fun t580 => (if t580 = true then (slotmeshlaw09_TimesyncEstimate.j0 k a2 a3 t578 true a0_0 a0_1 a0_2 a0_3 a0_4 a0_5 a0_6 a1_0 a1_1) else ((slotmeshlaw09_holds.f a0_0 a0_1 a0_2 a0_3 a0_4 a0_5 a0_6 a1_0 a1_1 a2).bind fun t581 => (slotmeshlaw09_TimesyncEstimate.j0 k a2 a3 t578 (!t581) a0_0 a0_1 a0_2 a0_3 a0_4 a0_5 a0_6 a1_0 a1_1)))) else (slotmeshlaw09_TimesyncEstimate.j0 k a2 a3 t578 true a0_0 a0_1 a0_2 a0_3 a0_4 a0_5 a0_6 a1_0 a1_1)) else (slotmeshlaw09_TimesyncEstimate.j0 k a2 a3 t578 true a0_0 a0_1 a0_2 a0_3 a0_4 a0_5 a0_6 a1_0 a1_1))))))) = some r := H
  have A5 := Aside0.mk A50
  clear A50
  have HC6 := Aside0.mk H
  clear H
  go_enter Try.func10, Try.ntmps10
  go_upto_region 2 with (first | ((with_reducible refine gate_dst (N := 4) rfl ?_); refine box_event ?hg (N := 4) ?hd (cs := #[.bool a0_0, .int .i64 a0_1, .int .i64 a0_2, .int .i64 a0_3, .int .i64 a0_4, .int .i64 a0_5, .int .i64 a0_6]) (t := 25) ?hr ?_; (case hd => rfl); (case hg => rfl); (case hr => first | (go_simp; done) | (go_simp; rfl)); intro gb576 hg w7 hbox hb; have n0_ := Aside0.mk (below_step (by repeat (first | (with_reducible first | exact HB.out | apply below_alloc | apply pw_below_drewN | apply below_drew1) | exact HB.out)) hb); have n1_ := Aside0.mk (hbox); have n2_ := Aside0.mk ((by rw [hg]; exact (below_size (by repeat (first | (with_reducible first | exact HB.out | apply below_alloc | apply pw_below_drewN | apply below_drew1) | exact HB.out))) : w.heap.size ≤ gb576)); have n3_ := Aside0.mk ((by rw [hg]; exact (below_size (by repeat (first | (with_reducible first | exact HB.out | apply below_alloc | apply pw_below_drewN | apply below_drew1) | exact HB.out))) : w.heap.size ≤ gb576)); clear HB; have HB := n0_; have BK576 := n1_; have GW576 := n2_; have GE576 := n3_; clear n0_ n1_ n2_ n3_; clear hb hbox hg) | ((with_reducible refine gate_dst (N := 5) rfl ?_); refine box_event ?hg (N := 5) ?hd (cs := #[.int .i64 a1_0, .int .i64 a1_1]) (t := 47) ?hr ?_; (case hd => rfl); (case hg => rfl); (case hr => first | (go_simp; done) | (go_simp; rfl)); intro gb577 hg w8 hbox hb; have n0_ := Aside0.mk (blk_below (g := gb576) (o := .cells #[.bool a0_0, .int .i64 a0_1, .int .i64 a0_2, .int .i64 a0_3, .int .i64 a0_4, .int .i64 a0_5, .int .i64 a0_6] 25 (0, 0)) (by (with_reducible repeat (first | refine blk_drewN ?_ _ | refine blk_drew ?_ | refine blk_alloc ?_ _)); exact BK576.out) hb); have n1_ := Aside0.mk (below_step (by repeat (first | (with_reducible first | exact HB.out | apply below_alloc | apply pw_below_drewN | apply below_drew1 | refine below_set ?_ GE576.out) | exact HB.out)) hb); have n2_ := Aside0.mk (hbox); have n3_ := Aside0.mk ((by rw [hg]; exact (below_size (by repeat (first | (with_reducible first | exact HB.out | apply below_alloc | apply pw_below_drewN | apply below_drew1 | refine below_set ?_ GE576.out) | exact HB.out))) : w.heap.size ≤ gb577)); have n4_ := Aside0.mk ((by rw [hg]; exact (below_size (by repeat (first | (with_reducible first | exact HB.out | apply below_alloc | apply pw_below_drewN | apply below_drew1 | refine below_set ?_ GE576.out) | exact HB.out))) : w.heap.size ≤ gb577)); have n5_ := Aside0.mk ((by rw [hg]; exact Nat.ne_of_lt (blk_lt (g := gb576) (o := .cells #[.bool a0_0, .int .i64 a0_1, .int .i64 a0_2, .int .i64 a0_3, .int .i64 a0_4, .int .i64 a0_5, .int .i64 a0_6] 25 (0, 0)) (by (with_reducible repeat (first | refine blk_drewN ?_ _ | refine blk_drew ?_ | refine blk_alloc ?_ _)); exact BK576.out)) : gb576 ≠ gb577)); have n6_ := Aside0.mk ((by rw [hg]; exact Nat.ne_of_gt (blk_lt (g := gb576) (o := .cells #[.bool a0_0, .int .i64 a0_1, .int .i64 a0_2, .int .i64 a0_3, .int .i64 a0_4, .int .i64 a0_5, .int .i64 a0_6] 25 (0, 0)) (by (with_reducible repeat (first | refine blk_drewN ?_ _ | refine blk_drew ?_ | refine blk_alloc ?_ _)); exact BK576.out)) : gb577 ≠ gb576)); clear BK576; clear HB; have BK576 := n0_; have HB := n1_; have BK577 := n2_; have GW577 := n3_; have GE577 := n4_; have NB576_577 := n5_; have NB577_576 := n6_; clear n0_ n1_ n2_ n3_ n4_ n5_ n6_; clear hb hbox hg) | ((with_reducible refine gate_callee (f := 11) rfl ?_); refine goesL_ (some 19) rfl rfl Try.func11 (by kernel_rfl) rfl #[] rfl (by (try simp only [List.map_toArray, List.map_cons, List.map_nil]); first | done | rfl | (simp only [List.length_drop, List.length_take]; rfl)) ?_; (with_reducible refine (slotmeshlaw09_head.calls k  t578 _ A5.out).mono ?_); rintro e w9 ⟨rfl, hb⟩; refine ⟨_, rfl, ?_⟩; have n0_ := Aside0.mk (blk_below (g := gb576) (o := .cells #[.bool a0_0, .int .i64 a0_1, .int .i64 a0_2, .int .i64 a0_3, .int .i64 a0_4, .int .i64 a0_5, .int .i64 a0_6] 25 (0, 0)) (by (with_reducible repeat (first | refine blk_drewN ?_ _ | refine blk_drew ?_ | refine blk_alloc ?_ _)); exact BK576.out) hb); have n1_ := Aside0.mk (blk_below (g := gb577) (o := .cells #[.int .i64 a1_0, .int .i64 a1_1] 47 (0, 0)) (by (with_reducible repeat (first | refine blk_drewN ?_ _ | refine blk_drew ?_ | refine blk_alloc ?_ _)); exact BK577.out) hb); have n2_ := Aside0.mk (below_step (by repeat (first | (with_reducible first | exact HB.out | apply below_alloc | apply pw_below_drewN | apply below_drew1 | refine below_set ?_ GE576.out | refine below_set ?_ GE577.out) | exact HB.out)) hb); clear BK576; clear BK577; clear HB; have BK576 := n0_; have BK577 := n1_; have HB := n2_; clear n0_ n1_ n2_; (try clear hb); (try clear hb2); (try clear hk); (try clear hi)))
  (try simp only [Act.put, List.setIfInBounds_toArray, List.set_cons_zero, List.set_cons_succ])
  go_cut [56] (fun v56 wc => ∃ (kq : Nat) (x56_5 : Bool), v56 = .bool x56_5 ∧ Aside0 (slotmeshlaw09_TimesyncEstimate.j0 kq a2 a3 t578 x56_5 a0_0 a0_1 a0_2 a0_3 a0_4 a0_5 a0_6 a1_0 a1_1 = some r) ∧ Aside0 (kq ≤ k) ∧ Aside0 (wc.heap[gb576]? = some (.cells #[.bool a0_0, .int .i64 a0_1, .int .i64 a0_2, .int .i64 a0_3, .int .i64 a0_4, .int .i64 a0_5, .int .i64 a0_6] 25 (0, 0))) ∧ Aside0 (wc.heap[gb577]? = some (.cells #[.int .i64 a1_0, .int .i64 a1_1] 47 (0, 0))) ∧ Aside0 (Below w.heap.size w wc))
  case first =>
    have H := HC6.out
    clear HC6
    by_cases c10 : a3 < 0
    · rw [if_pos c10] at H
      have c10b0 : decide (a3 < 0) = true := decide_eq_true c10
      clear c10
      (first | rw [c10b0] | (simp only [i64_w, i32_w]; rw [c10b0]) | skip)
      have H' := Aside0.mk H
      clear H
      go_wp2
      go_meet
      case rel => exact ⟨_, (true), (by first | rfl | (simp; done) | (simp [*]; done)), H', ⟨by first | omega | exact Nat.le_refl _⟩, ⟨by (with_reducible repeat (first | refine blk_drewN ?_ _ | refine blk_drew ?_ | refine blk_alloc ?_ _)); exact BK576.out⟩, ⟨by (with_reducible repeat (first | refine blk_drewN ?_ _ | refine blk_drew ?_ | refine blk_alloc ?_ _)); exact BK577.out⟩, ⟨by repeat (first | (with_reducible first | exact HB.out | apply below_alloc | apply pw_below_drewN | apply below_drew1 | refine below_set ?_ GE576.out | refine below_set ?_ GE577.out) | exact HB.out)⟩⟩
    · rw [if_neg c10] at H
      have c10b0 : decide (a3 < 0) = false := decide_eq_false c10
      clear c10
      (first | rw [c10b0] | (simp only [i64_w, i32_w]; rw [c10b0]) | skip)
      by_cases c11 : a2 < 0
      · rw [if_pos c11] at H
        have c11b0 : decide (a2 < 0) = true := decide_eq_true c11
        clear c11
        have H' := Aside0.mk H
        clear H
        go_wp2
        go_meet
        case rel => exact ⟨_, (true), (by first | rfl | (simp; done) | (simp [*]; done)), H', ⟨by first | omega | exact Nat.le_refl _⟩, ⟨by (with_reducible repeat (first | refine blk_drewN ?_ _ | refine blk_drew ?_ | refine blk_alloc ?_ _)); exact BK576.out⟩, ⟨by (with_reducible repeat (first | refine blk_drewN ?_ _ | refine blk_drew ?_ | refine blk_alloc ?_ _)); exact BK577.out⟩, ⟨by repeat (first | (with_reducible first | exact HB.out | apply below_alloc | apply pw_below_drewN | apply below_drew1 | refine below_set ?_ GE576.out | refine below_set ?_ GE577.out) | exact HB.out)⟩⟩
      · rw [if_neg c11] at H
        have c11b0 : decide (a2 < 0) = false := decide_eq_false c11
        clear c11
        by_cases c12 : a2 > 10000000000000
        · rw [if_pos c12] at H
          have c12b0 : decide (10000000000000 < a2) = true := decide_eq_true c12
          clear c12
          have H' := Aside0.mk H
          clear H
          go_wp2
          go_meet
          case rel => exact ⟨_, (true), (by first | rfl | (simp; done) | (simp [*]; done)), H', ⟨by first | omega | exact Nat.le_refl _⟩, ⟨by (with_reducible repeat (first | refine blk_drewN ?_ _ | refine blk_drew ?_ | refine blk_alloc ?_ _)); exact BK576.out⟩, ⟨by (with_reducible repeat (first | refine blk_drewN ?_ _ | refine blk_drew ?_ | refine blk_alloc ?_ _)); exact BK577.out⟩, ⟨by repeat (first | (with_reducible first | exact HB.out | apply below_alloc | apply pw_below_drewN | apply below_drew1 | refine below_set ?_ GE576.out | refine below_set ?_ GE577.out) | exact HB.out)⟩⟩
        · rw [if_neg c12] at H
          have c12b0 : decide (10000000000000 < a2) = false := decide_eq_false c12
          clear c12
          by_cases c13 : a3 > (wrap64 (10000000000000 - a2))
          · rw [if_pos c13] at H
            have c13b0 : decide ((wrap64 (10000000000000 - a2)) < a3) = true := decide_eq_true c13
            clear c13
            have H' := Aside0.mk H
            clear H
            go_wp2
            go_meet
            case rel => exact ⟨_, (true), (by first | rfl | (simp; done) | (simp [*]; done)), H', ⟨by first | omega | exact Nat.le_refl _⟩, ⟨by (with_reducible repeat (first | refine blk_drewN ?_ _ | refine blk_drew ?_ | refine blk_alloc ?_ _)); exact BK576.out⟩, ⟨by (with_reducible repeat (first | refine blk_drewN ?_ _ | refine blk_drew ?_ | refine blk_alloc ?_ _)); exact BK577.out⟩, ⟨by repeat (first | (with_reducible first | exact HB.out | apply below_alloc | apply pw_below_drewN | apply below_drew1 | refine below_set ?_ GE576.out | refine below_set ?_ GE577.out) | exact HB.out)⟩⟩
          · rw [if_neg c13] at H
            have c13b0 : decide ((wrap64 (10000000000000 - a2)) < a3) = false := decide_eq_false c13
            clear c13
            replace H := Option.bind_eq_some_iff.mp H
            obtain ⟨t579, A140, H⟩ := H
            replace H : (if t579 = true then (if a0_0 = true then ((slotmeshref09_Root.f a0_0 a0_1 a0_2 a0_3 a0_4 a0_5 a0_6).bind fun t580 => (if t580 = true then (slotmeshlaw09_TimesyncEstimate.j0 k a2 a3 t578 true a0_0 a0_1 a0_2 a0_3 a0_4 a0_5 a0_6 a1_0 a1_1) else ((slotmeshlaw09_holds.f a0_0 a0_1 a0_2 a0_3 a0_4 a0_5 a0_6 a1_0 a1_1 a2).bind fun t581 => (slotmeshlaw09_TimesyncEstimate.j0 k a2 a3 t578 (!t581) a0_0 a0_1 a0_2 a0_3 a0_4 a0_5 a0_6 a1_0 a1_1)))) else (slotmeshlaw09_TimesyncEstimate.j0 k a2 a3 t578 true a0_0 a0_1 a0_2 a0_3 a0_4 a0_5 a0_6 a1_0 a1_1)) else (slotmeshlaw09_TimesyncEstimate.j0 k a2 a3 t578 true a0_0 a0_1 a0_2 a0_3 a0_4 a0_5 a0_6 a1_0 a1_1)) = some r := H
            have A14 := Aside0.mk A140
            clear A140
            by_cases c15 : t579 = true
            · subst c15
              have H1 : (if a0_0 = true then ((slotmeshref09_Root.f a0_0 a0_1 a0_2 a0_3 a0_4 a0_5 a0_6).bind fun t580 => (if t580 = true then (slotmeshlaw09_TimesyncEstimate.j0 k a2 a3 t578 true a0_0 a0_1 a0_2 a0_3 a0_4 a0_5 a0_6 a1_0 a1_1) else ((slotmeshlaw09_holds.f a0_0 a0_1 a0_2 a0_3 a0_4 a0_5 a0_6 a1_0 a1_1 a2).bind fun t581 => (slotmeshlaw09_TimesyncEstimate.j0 k a2 a3 t578 (!t581) a0_0 a0_1 a0_2 a0_3 a0_4 a0_5 a0_6 a1_0 a1_1)))) else (slotmeshlaw09_TimesyncEstimate.j0 k a2 a3 t578 true a0_0 a0_1 a0_2 a0_3 a0_4 a0_5 a0_6 a1_0 a1_1)) = some r := by rw [if_pos rfl] at H; exact H
              clear H
              have H := H1
              clear H1
              by_cases c16 : a0_0 = true
              · subst c16
                have H1 : ((slotmeshref09_Root.f true a0_1 a0_2 a0_3 a0_4 a0_5 a0_6).bind fun t580 => (if t580 = true then (slotmeshlaw09_TimesyncEstimate.j0 k a2 a3 t578 true true a0_1 a0_2 a0_3 a0_4 a0_5 a0_6 a1_0 a1_1) else ((slotmeshlaw09_holds.f true a0_1 a0_2 a0_3 a0_4 a0_5 a0_6 a1_0 a1_1 a2).bind fun t581 => (slotmeshlaw09_TimesyncEstimate.j0 k a2 a3 t578 (!t581) true a0_1 a0_2 a0_3 a0_4 a0_5 a0_6 a1_0 a1_1)))) = some r := by rw [if_pos rfl] at H; exact H
                clear H
                have H := H1
                clear H1
                replace H := Option.bind_eq_some_iff.mp H
                obtain ⟨t580, A170, H⟩ := H
                replace H : (if t580 = true then (slotmeshlaw09_TimesyncEstimate.j0 k a2 a3 t578 true true a0_1 a0_2 a0_3 a0_4 a0_5 a0_6 a1_0 a1_1) else ((slotmeshlaw09_holds.f true a0_1 a0_2 a0_3 a0_4 a0_5 a0_6 a1_0 a1_1 a2).bind fun t581 => (slotmeshlaw09_TimesyncEstimate.j0 k a2 a3 t578 (!t581) true a0_1 a0_2 a0_3 a0_4 a0_5 a0_6 a1_0 a1_1))) = some r := H
                have A17 := Aside0.mk A170
                clear A170
                by_cases c18 : t580 = true
                · subst c18
                  have H1 : (slotmeshlaw09_TimesyncEstimate.j0 k a2 a3 t578 true true a0_1 a0_2 a0_3 a0_4 a0_5 a0_6 a1_0 a1_1) = some r := by rw [if_pos rfl] at H; exact H
                  clear H
                  have H := H1
                  clear H1
                  have H' := Aside0.mk H
                  clear H
                  have hnb19 := NB576_577.out
                  have hnc19 := NB577_576.out
                  have hcz20_0 : w9.cell? ⟨gb576, 0, none⟩ = some (.bool true) := (blk_cell BK576.out 0).trans rfl
                  have hcz20_1 : w9.cell? ⟨gb576, 1, none⟩ = some (.int .i64 a0_1) := (blk_cell BK576.out 1).trans rfl
                  have hcz20_2 : w9.cell? ⟨gb576, 2, none⟩ = some (.int .i64 a0_2) := (blk_cell BK576.out 2).trans rfl
                  have hcz20_3 : w9.cell? ⟨gb576, 3, none⟩ = some (.int .i64 a0_3) := (blk_cell BK576.out 3).trans rfl
                  have hcz20_4 : w9.cell? ⟨gb576, 4, none⟩ = some (.int .i64 a0_4) := (blk_cell BK576.out 4).trans rfl
                  have hcz20_5 : w9.cell? ⟨gb576, 5, none⟩ = some (.int .i64 a0_5) := (blk_cell BK576.out 5).trans rfl
                  have hcz20_6 : w9.cell? ⟨gb576, 6, none⟩ = some (.int .i64 a0_6) := (blk_cell BK576.out 6).trans rfl
                  have hfz20_0 := blk_frozen BK576.out 0
                  have hfz20_1 := blk_frozen BK576.out 1
                  have hfz20_2 := blk_frozen BK576.out 2
                  have hfz20_3 := blk_frozen BK576.out 3
                  have hfz20_4 := blk_frozen BK576.out 4
                  have hfz20_5 := blk_frozen BK576.out 5
                  have hfz20_6 := blk_frozen BK576.out 6
                  go_wp2_with (first | (go_at_call 20; (with_reducible refine (slotmeshref09_Valid.calls k true a0_1 a0_2 a0_3 a0_4 a0_5 a0_6 true _ A14.out).mono ?_); rintro e w21 ⟨rfl, hb⟩; have n0_ := Aside0.mk (blk_below (g := gb576) (o := .cells #[.bool true, .int .i64 a0_1, .int .i64 a0_2, .int .i64 a0_3, .int .i64 a0_4, .int .i64 a0_5, .int .i64 a0_6] 25 (0, 0)) (by (with_reducible repeat (first | refine blk_drewN ?_ _ | refine blk_drew ?_ | refine blk_alloc ?_ _)); exact BK576.out) hb); have n1_ := Aside0.mk (blk_below (g := gb577) (o := .cells #[.int .i64 a1_0, .int .i64 a1_1] 47 (0, 0)) (by (with_reducible repeat (first | refine blk_drewN ?_ _ | refine blk_drew ?_ | refine blk_alloc ?_ _)); exact BK577.out) hb); have n2_ := Aside0.mk (below_step (by repeat (first | (with_reducible first | exact HB.out | apply below_alloc | apply pw_below_drewN | apply below_drew1 | refine below_set ?_ GE576.out | refine below_set ?_ GE577.out) | exact HB.out)) hb); clear BK576; clear BK577; clear HB; have BK576 := n0_; have BK577 := n1_; have HB := n2_; clear n0_ n1_ n2_; (try clear hb); (try clear hb2); (try clear hk); (try clear hi); have hcz22_0 : w21.cell? ⟨gb576, 0, none⟩ = some (.bool true) := (blk_cell BK576.out 0).trans rfl; have hcz22_1 : w21.cell? ⟨gb576, 1, none⟩ = some (.int .i64 a0_1) := (blk_cell BK576.out 1).trans rfl; have hcz22_2 : w21.cell? ⟨gb576, 2, none⟩ = some (.int .i64 a0_2) := (blk_cell BK576.out 2).trans rfl; have hcz22_3 : w21.cell? ⟨gb576, 3, none⟩ = some (.int .i64 a0_3) := (blk_cell BK576.out 3).trans rfl; have hcz22_4 : w21.cell? ⟨gb576, 4, none⟩ = some (.int .i64 a0_4) := (blk_cell BK576.out 4).trans rfl; have hcz22_5 : w21.cell? ⟨gb576, 5, none⟩ = some (.int .i64 a0_5) := (blk_cell BK576.out 5).trans rfl; have hcz22_6 : w21.cell? ⟨gb576, 6, none⟩ = some (.int .i64 a0_6) := (blk_cell BK576.out 6).trans rfl; have hfz22_0 := blk_frozen BK576.out 0; have hfz22_1 := blk_frozen BK576.out 1; have hfz22_2 := blk_frozen BK576.out 2; have hfz22_3 := blk_frozen BK576.out 3; have hfz22_4 := blk_frozen BK576.out 4; have hfz22_5 := blk_frozen BK576.out 5; have hfz22_6 := blk_frozen BK576.out 6) | (go_at_call 21; (with_reducible refine (slotmeshref09_Root.calls true a0_1 a0_2 a0_3 a0_4 a0_5 a0_6 true _ A17.out).mono ?_); rintro e w23 ⟨rfl, hb⟩; have n0_ := Aside0.mk (blk_below (g := gb576) (o := .cells #[.bool true, .int .i64 a0_1, .int .i64 a0_2, .int .i64 a0_3, .int .i64 a0_4, .int .i64 a0_5, .int .i64 a0_6] 25 (0, 0)) (by (with_reducible repeat (first | refine blk_drewN ?_ _ | refine blk_drew ?_ | refine blk_alloc ?_ _)); exact BK576.out) hb); have n1_ := Aside0.mk (blk_below (g := gb577) (o := .cells #[.int .i64 a1_0, .int .i64 a1_1] 47 (0, 0)) (by (with_reducible repeat (first | refine blk_drewN ?_ _ | refine blk_drew ?_ | refine blk_alloc ?_ _)); exact BK577.out) hb); have n2_ := Aside0.mk (below_step (by repeat (first | (with_reducible first | exact HB.out | apply below_alloc | apply pw_below_drewN | apply below_drew1 | refine below_set ?_ GE576.out | refine below_set ?_ GE577.out) | exact HB.out)) hb); clear BK576; clear BK577; clear HB; have BK576 := n0_; have BK577 := n1_; have HB := n2_; clear n0_ n1_ n2_; (try clear hb); (try clear hb2); (try clear hk); (try clear hi)))
                  go_meet
                  case rel => exact ⟨_, (true), (by first | rfl | (simp; done) | (simp [*]; done)), H', ⟨by first | omega | exact Nat.le_refl _⟩, ⟨by (with_reducible repeat (first | refine blk_drewN ?_ _ | refine blk_drew ?_ | refine blk_alloc ?_ _)); exact BK576.out⟩, ⟨by (with_reducible repeat (first | refine blk_drewN ?_ _ | refine blk_drew ?_ | refine blk_alloc ?_ _)); exact BK577.out⟩, ⟨by repeat (first | (with_reducible first | exact HB.out | apply below_alloc | apply pw_below_drewN | apply below_drew1 | refine below_set ?_ GE576.out | refine below_set ?_ GE577.out) | exact HB.out)⟩⟩
                · replace c18 := Bool.eq_false_iff.mpr c18
                  subst c18
                  have H1 : ((slotmeshlaw09_holds.f true a0_1 a0_2 a0_3 a0_4 a0_5 a0_6 a1_0 a1_1 a2).bind fun t581 => (slotmeshlaw09_TimesyncEstimate.j0 k a2 a3 t578 (!t581) true a0_1 a0_2 a0_3 a0_4 a0_5 a0_6 a1_0 a1_1)) = some r := by rw [if_neg (show ¬ (false = true) by decide)] at H; exact H
                  clear H
                  have H := H1
                  clear H1
                  replace H := Option.bind_eq_some_iff.mp H
                  obtain ⟨t581, A240, H⟩ := H
                  replace H : (slotmeshlaw09_TimesyncEstimate.j0 k a2 a3 t578 (!t581) true a0_1 a0_2 a0_3 a0_4 a0_5 a0_6 a1_0 a1_1) = some r := H
                  have A24 := Aside0.mk A240
                  clear A240
                  have H' := Aside0.mk H
                  clear H
                  have hnb25 := NB576_577.out
                  have hnc25 := NB577_576.out
                  have hcz26_0 : w9.cell? ⟨gb576, 0, none⟩ = some (.bool true) := (blk_cell BK576.out 0).trans rfl
                  have hcz26_1 : w9.cell? ⟨gb576, 1, none⟩ = some (.int .i64 a0_1) := (blk_cell BK576.out 1).trans rfl
                  have hcz26_2 : w9.cell? ⟨gb576, 2, none⟩ = some (.int .i64 a0_2) := (blk_cell BK576.out 2).trans rfl
                  have hcz26_3 : w9.cell? ⟨gb576, 3, none⟩ = some (.int .i64 a0_3) := (blk_cell BK576.out 3).trans rfl
                  have hcz26_4 : w9.cell? ⟨gb576, 4, none⟩ = some (.int .i64 a0_4) := (blk_cell BK576.out 4).trans rfl
                  have hcz26_5 : w9.cell? ⟨gb576, 5, none⟩ = some (.int .i64 a0_5) := (blk_cell BK576.out 5).trans rfl
                  have hcz26_6 : w9.cell? ⟨gb576, 6, none⟩ = some (.int .i64 a0_6) := (blk_cell BK576.out 6).trans rfl
                  have hfz26_0 := blk_frozen BK576.out 0
                  have hfz26_1 := blk_frozen BK576.out 1
                  have hfz26_2 := blk_frozen BK576.out 2
                  have hfz26_3 := blk_frozen BK576.out 3
                  have hfz26_4 := blk_frozen BK576.out 4
                  have hfz26_5 := blk_frozen BK576.out 5
                  have hfz26_6 := blk_frozen BK576.out 6
                  go_wp2_with (first | (go_at_call 20; (with_reducible refine (slotmeshref09_Valid.calls k true a0_1 a0_2 a0_3 a0_4 a0_5 a0_6 true _ A14.out).mono ?_); rintro e w27 ⟨rfl, hb⟩; have n0_ := Aside0.mk (blk_below (g := gb576) (o := .cells #[.bool true, .int .i64 a0_1, .int .i64 a0_2, .int .i64 a0_3, .int .i64 a0_4, .int .i64 a0_5, .int .i64 a0_6] 25 (0, 0)) (by (with_reducible repeat (first | refine blk_drewN ?_ _ | refine blk_drew ?_ | refine blk_alloc ?_ _)); exact BK576.out) hb); have n1_ := Aside0.mk (blk_below (g := gb577) (o := .cells #[.int .i64 a1_0, .int .i64 a1_1] 47 (0, 0)) (by (with_reducible repeat (first | refine blk_drewN ?_ _ | refine blk_drew ?_ | refine blk_alloc ?_ _)); exact BK577.out) hb); have n2_ := Aside0.mk (below_step (by repeat (first | (with_reducible first | exact HB.out | apply below_alloc | apply pw_below_drewN | apply below_drew1 | refine below_set ?_ GE576.out | refine below_set ?_ GE577.out) | exact HB.out)) hb); clear BK576; clear BK577; clear HB; have BK576 := n0_; have BK577 := n1_; have HB := n2_; clear n0_ n1_ n2_; (try clear hb); (try clear hb2); (try clear hk); (try clear hi); have hcz28_0 : w27.cell? ⟨gb576, 0, none⟩ = some (.bool true) := (blk_cell BK576.out 0).trans rfl; have hcz28_1 : w27.cell? ⟨gb576, 1, none⟩ = some (.int .i64 a0_1) := (blk_cell BK576.out 1).trans rfl; have hcz28_2 : w27.cell? ⟨gb576, 2, none⟩ = some (.int .i64 a0_2) := (blk_cell BK576.out 2).trans rfl; have hcz28_3 : w27.cell? ⟨gb576, 3, none⟩ = some (.int .i64 a0_3) := (blk_cell BK576.out 3).trans rfl; have hcz28_4 : w27.cell? ⟨gb576, 4, none⟩ = some (.int .i64 a0_4) := (blk_cell BK576.out 4).trans rfl; have hcz28_5 : w27.cell? ⟨gb576, 5, none⟩ = some (.int .i64 a0_5) := (blk_cell BK576.out 5).trans rfl; have hcz28_6 : w27.cell? ⟨gb576, 6, none⟩ = some (.int .i64 a0_6) := (blk_cell BK576.out 6).trans rfl; have hfz28_0 := blk_frozen BK576.out 0; have hfz28_1 := blk_frozen BK576.out 1; have hfz28_2 := blk_frozen BK576.out 2; have hfz28_3 := blk_frozen BK576.out 3; have hfz28_4 := blk_frozen BK576.out 4; have hfz28_5 := blk_frozen BK576.out 5; have hfz28_6 := blk_frozen BK576.out 6) | (go_at_call 21; (with_reducible refine (slotmeshref09_Root.calls true a0_1 a0_2 a0_3 a0_4 a0_5 a0_6 false _ A17.out).mono ?_); rintro e w29 ⟨rfl, hb⟩; have n0_ := Aside0.mk (blk_below (g := gb576) (o := .cells #[.bool true, .int .i64 a0_1, .int .i64 a0_2, .int .i64 a0_3, .int .i64 a0_4, .int .i64 a0_5, .int .i64 a0_6] 25 (0, 0)) (by (with_reducible repeat (first | refine blk_drewN ?_ _ | refine blk_drew ?_ | refine blk_alloc ?_ _)); exact BK576.out) hb); have n1_ := Aside0.mk (blk_below (g := gb577) (o := .cells #[.int .i64 a1_0, .int .i64 a1_1] 47 (0, 0)) (by (with_reducible repeat (first | refine blk_drewN ?_ _ | refine blk_drew ?_ | refine blk_alloc ?_ _)); exact BK577.out) hb); have n2_ := Aside0.mk (below_step (by repeat (first | (with_reducible first | exact HB.out | apply below_alloc | apply pw_below_drewN | apply below_drew1 | refine below_set ?_ GE576.out | refine below_set ?_ GE577.out) | exact HB.out)) hb); clear BK576; clear BK577; clear HB; have BK576 := n0_; have BK577 := n1_; have HB := n2_; clear n0_ n1_ n2_; (try clear hb); (try clear hb2); (try clear hk); (try clear hi); have hcz30_0 : w29.cell? ⟨gb576, 0, none⟩ = some (.bool true) := (blk_cell BK576.out 0).trans rfl; have hcz30_1 : w29.cell? ⟨gb576, 1, none⟩ = some (.int .i64 a0_1) := (blk_cell BK576.out 1).trans rfl; have hcz30_2 : w29.cell? ⟨gb576, 2, none⟩ = some (.int .i64 a0_2) := (blk_cell BK576.out 2).trans rfl; have hcz30_3 : w29.cell? ⟨gb576, 3, none⟩ = some (.int .i64 a0_3) := (blk_cell BK576.out 3).trans rfl; have hcz30_4 : w29.cell? ⟨gb576, 4, none⟩ = some (.int .i64 a0_4) := (blk_cell BK576.out 4).trans rfl; have hcz30_5 : w29.cell? ⟨gb576, 5, none⟩ = some (.int .i64 a0_5) := (blk_cell BK576.out 5).trans rfl; have hcz30_6 : w29.cell? ⟨gb576, 6, none⟩ = some (.int .i64 a0_6) := (blk_cell BK576.out 6).trans rfl; have hfz30_0 := blk_frozen BK576.out 0; have hfz30_1 := blk_frozen BK576.out 1; have hfz30_2 := blk_frozen BK576.out 2; have hfz30_3 := blk_frozen BK576.out 3; have hfz30_4 := blk_frozen BK576.out 4; have hfz30_5 := blk_frozen BK576.out 5; have hfz30_6 := blk_frozen BK576.out 6; have hcz31_0 : w29.cell? ⟨gb577, 0, none⟩ = some (.int .i64 a1_0) := (blk_cell BK577.out 0).trans rfl; have hcz31_1 : w29.cell? ⟨gb577, 1, none⟩ = some (.int .i64 a1_1) := (blk_cell BK577.out 1).trans rfl; have hfz31_0 := blk_frozen BK577.out 0; have hfz31_1 := blk_frozen BK577.out 1) | (go_at_call 26; (with_reducible refine (slotmeshlaw09_holds.calls true a0_1 a0_2 a0_3 a0_4 a0_5 a0_6 a1_0 a1_1 a2 t581 _ A24.out).mono ?_); rintro e w32 ⟨rfl, hb⟩; have n0_ := Aside0.mk (blk_below (g := gb576) (o := .cells #[.bool true, .int .i64 a0_1, .int .i64 a0_2, .int .i64 a0_3, .int .i64 a0_4, .int .i64 a0_5, .int .i64 a0_6] 25 (0, 0)) (by (with_reducible repeat (first | refine blk_drewN ?_ _ | refine blk_drew ?_ | refine blk_alloc ?_ _)); exact BK576.out) hb); have n1_ := Aside0.mk (blk_below (g := gb577) (o := .cells #[.int .i64 a1_0, .int .i64 a1_1] 47 (0, 0)) (by (with_reducible repeat (first | refine blk_drewN ?_ _ | refine blk_drew ?_ | refine blk_alloc ?_ _)); exact BK577.out) hb); have n2_ := Aside0.mk (below_step (by repeat (first | (with_reducible first | exact HB.out | apply below_alloc | apply pw_below_drewN | apply below_drew1 | refine below_set ?_ GE576.out | refine below_set ?_ GE577.out) | exact HB.out)) hb); clear BK576; clear BK577; clear HB; have BK576 := n0_; have BK577 := n1_; have HB := n2_; clear n0_ n1_ n2_; (try clear hb); (try clear hb2); (try clear hk); (try clear hi)))
                  go_meet
                  case rel => exact ⟨_, (!t581), (by first | rfl | (simp; done) | (simp [*]; done)), H', ⟨by first | omega | exact Nat.le_refl _⟩, ⟨by (with_reducible repeat (first | refine blk_drewN ?_ _ | refine blk_drew ?_ | refine blk_alloc ?_ _)); exact BK576.out⟩, ⟨by (with_reducible repeat (first | refine blk_drewN ?_ _ | refine blk_drew ?_ | refine blk_alloc ?_ _)); exact BK577.out⟩, ⟨by repeat (first | (with_reducible first | exact HB.out | apply below_alloc | apply pw_below_drewN | apply below_drew1 | refine below_set ?_ GE576.out | refine below_set ?_ GE577.out) | exact HB.out)⟩⟩
              · replace c16 := Bool.eq_false_iff.mpr c16
                subst c16
                have H1 : (slotmeshlaw09_TimesyncEstimate.j0 k a2 a3 t578 true false a0_1 a0_2 a0_3 a0_4 a0_5 a0_6 a1_0 a1_1) = some r := by rw [if_neg (show ¬ (false = true) by decide)] at H; exact H
                clear H
                have H := H1
                clear H1
                have H' := Aside0.mk H
                clear H
                have hnb33 := NB576_577.out
                have hnc33 := NB577_576.out
                have hcz34_0 : w9.cell? ⟨gb576, 0, none⟩ = some (.bool false) := (blk_cell BK576.out 0).trans rfl
                have hcz34_1 : w9.cell? ⟨gb576, 1, none⟩ = some (.int .i64 a0_1) := (blk_cell BK576.out 1).trans rfl
                have hcz34_2 : w9.cell? ⟨gb576, 2, none⟩ = some (.int .i64 a0_2) := (blk_cell BK576.out 2).trans rfl
                have hcz34_3 : w9.cell? ⟨gb576, 3, none⟩ = some (.int .i64 a0_3) := (blk_cell BK576.out 3).trans rfl
                have hcz34_4 : w9.cell? ⟨gb576, 4, none⟩ = some (.int .i64 a0_4) := (blk_cell BK576.out 4).trans rfl
                have hcz34_5 : w9.cell? ⟨gb576, 5, none⟩ = some (.int .i64 a0_5) := (blk_cell BK576.out 5).trans rfl
                have hcz34_6 : w9.cell? ⟨gb576, 6, none⟩ = some (.int .i64 a0_6) := (blk_cell BK576.out 6).trans rfl
                have hfz34_0 := blk_frozen BK576.out 0
                have hfz34_1 := blk_frozen BK576.out 1
                have hfz34_2 := blk_frozen BK576.out 2
                have hfz34_3 := blk_frozen BK576.out 3
                have hfz34_4 := blk_frozen BK576.out 4
                have hfz34_5 := blk_frozen BK576.out 5
                have hfz34_6 := blk_frozen BK576.out 6
                go_wp2_with (first | (go_at_call 20; (with_reducible refine (slotmeshref09_Valid.calls k false a0_1 a0_2 a0_3 a0_4 a0_5 a0_6 true _ A14.out).mono ?_); rintro e w35 ⟨rfl, hb⟩; have n0_ := Aside0.mk (blk_below (g := gb576) (o := .cells #[.bool false, .int .i64 a0_1, .int .i64 a0_2, .int .i64 a0_3, .int .i64 a0_4, .int .i64 a0_5, .int .i64 a0_6] 25 (0, 0)) (by (with_reducible repeat (first | refine blk_drewN ?_ _ | refine blk_drew ?_ | refine blk_alloc ?_ _)); exact BK576.out) hb); have n1_ := Aside0.mk (blk_below (g := gb577) (o := .cells #[.int .i64 a1_0, .int .i64 a1_1] 47 (0, 0)) (by (with_reducible repeat (first | refine blk_drewN ?_ _ | refine blk_drew ?_ | refine blk_alloc ?_ _)); exact BK577.out) hb); have n2_ := Aside0.mk (below_step (by repeat (first | (with_reducible first | exact HB.out | apply below_alloc | apply pw_below_drewN | apply below_drew1 | refine below_set ?_ GE576.out | refine below_set ?_ GE577.out) | exact HB.out)) hb); clear BK576; clear BK577; clear HB; have BK576 := n0_; have BK577 := n1_; have HB := n2_; clear n0_ n1_ n2_; (try clear hb); (try clear hb2); (try clear hk); (try clear hi); have hcz36_0 : w35.cell? ⟨gb576, 0, none⟩ = some (.bool false) := (blk_cell BK576.out 0).trans rfl; have hcz36_1 : w35.cell? ⟨gb576, 1, none⟩ = some (.int .i64 a0_1) := (blk_cell BK576.out 1).trans rfl; have hcz36_2 : w35.cell? ⟨gb576, 2, none⟩ = some (.int .i64 a0_2) := (blk_cell BK576.out 2).trans rfl; have hcz36_3 : w35.cell? ⟨gb576, 3, none⟩ = some (.int .i64 a0_3) := (blk_cell BK576.out 3).trans rfl; have hcz36_4 : w35.cell? ⟨gb576, 4, none⟩ = some (.int .i64 a0_4) := (blk_cell BK576.out 4).trans rfl; have hcz36_5 : w35.cell? ⟨gb576, 5, none⟩ = some (.int .i64 a0_5) := (blk_cell BK576.out 5).trans rfl; have hcz36_6 : w35.cell? ⟨gb576, 6, none⟩ = some (.int .i64 a0_6) := (blk_cell BK576.out 6).trans rfl; have hfz36_0 := blk_frozen BK576.out 0; have hfz36_1 := blk_frozen BK576.out 1; have hfz36_2 := blk_frozen BK576.out 2; have hfz36_3 := blk_frozen BK576.out 3; have hfz36_4 := blk_frozen BK576.out 4; have hfz36_5 := blk_frozen BK576.out 5; have hfz36_6 := blk_frozen BK576.out 6))
                go_meet
                case rel => exact ⟨_, (true), (by first | rfl | (simp; done) | (simp [*]; done)), H', ⟨by first | omega | exact Nat.le_refl _⟩, ⟨by (with_reducible repeat (first | refine blk_drewN ?_ _ | refine blk_drew ?_ | refine blk_alloc ?_ _)); exact BK576.out⟩, ⟨by (with_reducible repeat (first | refine blk_drewN ?_ _ | refine blk_drew ?_ | refine blk_alloc ?_ _)); exact BK577.out⟩, ⟨by repeat (first | (with_reducible first | exact HB.out | apply below_alloc | apply pw_below_drewN | apply below_drew1 | refine below_set ?_ GE576.out | refine below_set ?_ GE577.out) | exact HB.out)⟩⟩
            · replace c15 := Bool.eq_false_iff.mpr c15
              subst c15
              have H1 : (slotmeshlaw09_TimesyncEstimate.j0 k a2 a3 t578 true a0_0 a0_1 a0_2 a0_3 a0_4 a0_5 a0_6 a1_0 a1_1) = some r := by rw [if_neg (show ¬ (false = true) by decide)] at H; exact H
              clear H
              have H := H1
              clear H1
              have H' := Aside0.mk H
              clear H
              have hnb37 := NB576_577.out
              have hnc37 := NB577_576.out
              have hcz38_0 : w9.cell? ⟨gb576, 0, none⟩ = some (.bool a0_0) := (blk_cell BK576.out 0).trans rfl
              have hcz38_1 : w9.cell? ⟨gb576, 1, none⟩ = some (.int .i64 a0_1) := (blk_cell BK576.out 1).trans rfl
              have hcz38_2 : w9.cell? ⟨gb576, 2, none⟩ = some (.int .i64 a0_2) := (blk_cell BK576.out 2).trans rfl
              have hcz38_3 : w9.cell? ⟨gb576, 3, none⟩ = some (.int .i64 a0_3) := (blk_cell BK576.out 3).trans rfl
              have hcz38_4 : w9.cell? ⟨gb576, 4, none⟩ = some (.int .i64 a0_4) := (blk_cell BK576.out 4).trans rfl
              have hcz38_5 : w9.cell? ⟨gb576, 5, none⟩ = some (.int .i64 a0_5) := (blk_cell BK576.out 5).trans rfl
              have hcz38_6 : w9.cell? ⟨gb576, 6, none⟩ = some (.int .i64 a0_6) := (blk_cell BK576.out 6).trans rfl
              have hfz38_0 := blk_frozen BK576.out 0
              have hfz38_1 := blk_frozen BK576.out 1
              have hfz38_2 := blk_frozen BK576.out 2
              have hfz38_3 := blk_frozen BK576.out 3
              have hfz38_4 := blk_frozen BK576.out 4
              have hfz38_5 := blk_frozen BK576.out 5
              have hfz38_6 := blk_frozen BK576.out 6
              go_wp2_with (first | (go_at_call 20; (with_reducible refine (slotmeshref09_Valid.calls k a0_0 a0_1 a0_2 a0_3 a0_4 a0_5 a0_6 false _ A14.out).mono ?_); rintro e w39 ⟨rfl, hb⟩; have n0_ := Aside0.mk (blk_below (g := gb576) (o := .cells #[.bool a0_0, .int .i64 a0_1, .int .i64 a0_2, .int .i64 a0_3, .int .i64 a0_4, .int .i64 a0_5, .int .i64 a0_6] 25 (0, 0)) (by (with_reducible repeat (first | refine blk_drewN ?_ _ | refine blk_drew ?_ | refine blk_alloc ?_ _)); exact BK576.out) hb); have n1_ := Aside0.mk (blk_below (g := gb577) (o := .cells #[.int .i64 a1_0, .int .i64 a1_1] 47 (0, 0)) (by (with_reducible repeat (first | refine blk_drewN ?_ _ | refine blk_drew ?_ | refine blk_alloc ?_ _)); exact BK577.out) hb); have n2_ := Aside0.mk (below_step (by repeat (first | (with_reducible first | exact HB.out | apply below_alloc | apply pw_below_drewN | apply below_drew1 | refine below_set ?_ GE576.out | refine below_set ?_ GE577.out) | exact HB.out)) hb); clear BK576; clear BK577; clear HB; have BK576 := n0_; have BK577 := n1_; have HB := n2_; clear n0_ n1_ n2_; (try clear hb); (try clear hb2); (try clear hk); (try clear hi)))
              go_meet
              case rel => exact ⟨_, (true), (by first | rfl | (simp; done) | (simp [*]; done)), H', ⟨by first | omega | exact Nat.le_refl _⟩, ⟨by (with_reducible repeat (first | refine blk_drewN ?_ _ | refine blk_drew ?_ | refine blk_alloc ?_ _)); exact BK576.out⟩, ⟨by (with_reducible repeat (first | refine blk_drewN ?_ _ | refine blk_drew ?_ | refine blk_alloc ?_ _)); exact BK577.out⟩, ⟨by repeat (first | (with_reducible first | exact HB.out | apply below_alloc | apply pw_below_drewN | apply below_drew1 | refine below_set ?_ GE576.out | refine below_set ?_ GE577.out) | exact HB.out)⟩⟩
  case rest =>
    clear HC6
    try clear c1
    try clear c2
    try clear p2
    try clear c3
    try clear p6
    try clear c10
    try clear c10b0
    try clear c11
    try clear c11b0
    try clear c12
    try clear c12b0
    try clear c13
    try clear c13b0
    try clear c15
    try clear c16
    try clear c18
    try clear c19
    try clear c25
    try clear c33
    try clear c37
    try clear hcz20_0
    try clear hcz20_1
    try clear hcz20_2
    try clear hcz20_3
    try clear hcz20_4
    try clear hcz20_5
    try clear hcz20_6
    try clear hcz22_0
    try clear hcz22_1
    try clear hcz22_2
    try clear hcz22_3
    try clear hcz22_4
    try clear hcz22_5
    try clear hcz22_6
    try clear hcz26_0
    try clear hcz26_1
    try clear hcz26_2
    try clear hcz26_3
    try clear hcz26_4
    try clear hcz26_5
    try clear hcz26_6
    try clear hcz28_0
    try clear hcz28_1
    try clear hcz28_2
    try clear hcz28_3
    try clear hcz28_4
    try clear hcz28_5
    try clear hcz28_6
    try clear hcz30_0
    try clear hcz30_1
    try clear hcz30_2
    try clear hcz30_3
    try clear hcz30_4
    try clear hcz30_5
    try clear hcz30_6
    try clear hcz31_0
    try clear hcz31_1
    try clear hcz34_0
    try clear hcz34_1
    try clear hcz34_2
    try clear hcz34_3
    try clear hcz34_4
    try clear hcz34_5
    try clear hcz34_6
    try clear hcz36_0
    try clear hcz36_1
    try clear hcz36_2
    try clear hcz36_3
    try clear hcz36_4
    try clear hcz36_5
    try clear hcz36_6
    try clear hcz38_0
    try clear hcz38_1
    try clear hcz38_2
    try clear hcz38_3
    try clear hcz38_4
    try clear hcz38_5
    try clear hcz38_6
    try clear hfz20_0
    try clear hfz20_1
    try clear hfz20_2
    try clear hfz20_3
    try clear hfz20_4
    try clear hfz20_5
    try clear hfz20_6
    try clear hfz22_0
    try clear hfz22_1
    try clear hfz22_2
    try clear hfz22_3
    try clear hfz22_4
    try clear hfz22_5
    try clear hfz22_6
    try clear hfz26_0
    try clear hfz26_1
    try clear hfz26_2
    try clear hfz26_3
    try clear hfz26_4
    try clear hfz26_5
    try clear hfz26_6
    try clear hfz28_0
    try clear hfz28_1
    try clear hfz28_2
    try clear hfz28_3
    try clear hfz28_4
    try clear hfz28_5
    try clear hfz28_6
    try clear hfz30_0
    try clear hfz30_1
    try clear hfz30_2
    try clear hfz30_3
    try clear hfz30_4
    try clear hfz30_5
    try clear hfz30_6
    try clear hfz31_0
    try clear hfz31_1
    try clear hfz34_0
    try clear hfz34_1
    try clear hfz34_2
    try clear hfz34_3
    try clear hfz34_4
    try clear hfz34_5
    try clear hfz34_6
    try clear hfz36_0
    try clear hfz36_1
    try clear hfz36_2
    try clear hfz36_3
    try clear hfz36_4
    try clear hfz36_5
    try clear hfz36_6
    try clear hfz38_0
    try clear hfz38_1
    try clear hfz38_2
    try clear hfz38_3
    try clear hfz38_4
    try clear hfz38_5
    try clear hfz38_6
    obtain ⟨kq, x56_5, rfl, HA, HJ5, BK576, BK577, HB⟩ := hcut
    cases kq with
    | zero => exact absurd HA.out (by simp [slotmeshlaw09_TimesyncEstimate.j0])
    | succ kj5 =>
      have H := HA.out
      clear HA
      simp only [slotmeshlaw09_TimesyncEstimate.j0] at H
      by_cases c40 : x56_5 = true
      · subst c40
        have H1 : (some t578) = some r := by rw [if_pos rfl] at H; exact H
        clear H
        have H := H1
        clear H1
        obtain rfl := Option.some.inj H
        go_wp2
        go_ret
        exact ⟨by first | rfl | (simp [errW_none, errW_some] <;> rfl) | (simp [*, errW_none, errW_some] <;> rfl), by repeat (first | (with_reducible first | exact HB.out | apply below_alloc | apply pw_below_drewN | apply below_drew1 | refine below_set ?_ GE576.out | refine below_set ?_ GE577.out) | exact HB.out)⟩
      · replace c40 := Bool.eq_false_iff.mpr c40
        subst c40
        have H1 : ((clock_Show.f a1_0 a1_1 (wrap64 (a2 + a3))).bind fun bt582 => ((timesync_Bound.f kj5 a0_0 a0_1 a0_2 a0_3 a0_4 a0_5 a0_6 bt582.1).bind fun bt584 => ((bound_Grow.f kj5 a0_1 a0_2 a0_3 bt582.1).bind fun bt586 => (if bt582.2 = 0 then (if bt584.2 = 0 then (slotmeshlaw09_TimesyncEstimate.j1 kj5 a2 a3 t578 bt582.1 bt582.2 bt584.1 bt584.2 bt586.2.2.2 (bt586.2.2.2 != 0) bt586.1 bt586.2.1 bt586.2.2.1) else (slotmeshlaw09_TimesyncEstimate.j1 kj5 a2 a3 t578 bt582.1 bt582.2 bt584.1 bt584.2 bt586.2.2.2 true bt586.1 bt586.2.1 bt586.2.2.1)) else (slotmeshlaw09_TimesyncEstimate.j1 kj5 a2 a3 t578 bt582.1 bt582.2 bt584.1 bt584.2 bt586.2.2.2 true bt586.1 bt586.2.1 bt586.2.2.1))))) = some r := by rw [if_neg (show ¬ (false = true) by decide)] at H; exact H
        clear H
        have H := H1
        clear H1
        replace H := Option.bind_eq_some_iff.mp H
        obtain ⟨⟨t582, t583⟩, A410, H⟩ := H
        replace H : ((timesync_Bound.f kj5 a0_0 a0_1 a0_2 a0_3 a0_4 a0_5 a0_6 t582).bind fun bt584 => ((bound_Grow.f kj5 a0_1 a0_2 a0_3 t582).bind fun bt586 => (if t583 = 0 then (if bt584.2 = 0 then (slotmeshlaw09_TimesyncEstimate.j1 kj5 a2 a3 t578 t582 t583 bt584.1 bt584.2 bt586.2.2.2 (bt586.2.2.2 != 0) bt586.1 bt586.2.1 bt586.2.2.1) else (slotmeshlaw09_TimesyncEstimate.j1 kj5 a2 a3 t578 t582 t583 bt584.1 bt584.2 bt586.2.2.2 true bt586.1 bt586.2.1 bt586.2.2.1)) else (slotmeshlaw09_TimesyncEstimate.j1 kj5 a2 a3 t578 t582 t583 bt584.1 bt584.2 bt586.2.2.2 true bt586.1 bt586.2.1 bt586.2.2.1)))) = some r := H
        have A41 := Aside0.mk A410
        clear A410
        replace H := Option.bind_eq_some_iff.mp H
        obtain ⟨⟨t584, t585⟩, A420, H⟩ := H
        replace H : ((bound_Grow.f kj5 a0_1 a0_2 a0_3 t582).bind fun bt586 => (if t583 = 0 then (if t585 = 0 then (slotmeshlaw09_TimesyncEstimate.j1 kj5 a2 a3 t578 t582 t583 t584 t585 bt586.2.2.2 (bt586.2.2.2 != 0) bt586.1 bt586.2.1 bt586.2.2.1) else (slotmeshlaw09_TimesyncEstimate.j1 kj5 a2 a3 t578 t582 t583 t584 t585 bt586.2.2.2 true bt586.1 bt586.2.1 bt586.2.2.1)) else (slotmeshlaw09_TimesyncEstimate.j1 kj5 a2 a3 t578 t582 t583 t584 t585 bt586.2.2.2 true bt586.1 bt586.2.1 bt586.2.2.1))) = some r := H
        have A42 := Aside0.mk A420
        clear A420
        replace H := Option.bind_eq_some_iff.mp H
        obtain ⟨⟨t586, t587, t588, t589⟩, A430, H⟩ := H
        replace H : (if t583 = 0 then (if t585 = 0 then (slotmeshlaw09_TimesyncEstimate.j1 kj5 a2 a3 t578 t582 t583 t584 t585 t589 (t589 != 0) t586 t587 t588) else (slotmeshlaw09_TimesyncEstimate.j1 kj5 a2 a3 t578 t582 t583 t584 t585 t589 true t586 t587 t588)) else (slotmeshlaw09_TimesyncEstimate.j1 kj5 a2 a3 t578 t582 t583 t584 t585 t589 true t586 t587 t588)) = some r := H
        have A43 := Aside0.mk A430
        clear A430
        have HC44 := Aside0.mk H
        clear H
        have hnb45 := NB577_576.out
        have hnc45 := NB576_577.out
        have hcz46_0 : wc.cell? ⟨gb577, 0, none⟩ = some (.int .i64 a1_0) := (blk_cell BK577.out 0).trans rfl
        have hcz46_1 : wc.cell? ⟨gb577, 1, none⟩ = some (.int .i64 a1_1) := (blk_cell BK577.out 1).trans rfl
        have hfz46_0 := blk_frozen BK577.out 0
        have hfz46_1 := blk_frozen BK577.out 1
        go_upto_region 7 with (first | ((with_reducible refine gate_callee (f := 24) rfl ?_); refine goesL_ (some 63) rfl rfl Try.func24 (by kernel_rfl) rfl #[.agg #[.int .i64 a1_0, .int .i64 a1_1], .int .i64 (wrap64 (a2 + a3))] rfl (by (try simp only [List.map_toArray, List.map_cons, List.map_nil]); first | done | rfl | (simp only [List.length_drop, List.length_take]; rfl)) ?_; (with_reducible refine (clock_Show.calls a1_0 a1_1 (wrap64 (a2 + a3)) t582 t583 _ A41.out).mono ?_); rintro e w47 ⟨rfl, hb⟩; refine ⟨_, rfl, ?_⟩; have n0_ := Aside0.mk (blk_below (g := gb576) (o := .cells #[.bool a0_0, .int .i64 a0_1, .int .i64 a0_2, .int .i64 a0_3, .int .i64 a0_4, .int .i64 a0_5, .int .i64 a0_6] 25 (0, 0)) (by (with_reducible repeat (first | refine blk_drewN ?_ _ | refine blk_drew ?_ | refine blk_alloc ?_ _)); exact BK576.out) hb); have n1_ := Aside0.mk (blk_below (g := gb577) (o := .cells #[.int .i64 a1_0, .int .i64 a1_1] 47 (0, 0)) (by (with_reducible repeat (first | refine blk_drewN ?_ _ | refine blk_drew ?_ | refine blk_alloc ?_ _)); exact BK577.out) hb); have n2_ := Aside0.mk (below_step (by repeat (first | (with_reducible first | exact HB.out | apply below_alloc | apply pw_below_drewN | apply below_drew1 | refine below_set ?_ GE576.out | refine below_set ?_ GE577.out) | exact HB.out)) hb); clear BK576; clear BK577; clear HB; have BK576 := n0_; have BK577 := n1_; have HB := n2_; clear n0_ n1_ n2_; (try clear hb); (try clear hb2); (try clear hk); (try clear hi); have hcz48_0 : w47.cell? ⟨gb576, 0, none⟩ = some (.bool a0_0) := (blk_cell BK576.out 0).trans rfl; have hcz48_1 : w47.cell? ⟨gb576, 1, none⟩ = some (.int .i64 a0_1) := (blk_cell BK576.out 1).trans rfl; have hcz48_2 : w47.cell? ⟨gb576, 2, none⟩ = some (.int .i64 a0_2) := (blk_cell BK576.out 2).trans rfl; have hcz48_3 : w47.cell? ⟨gb576, 3, none⟩ = some (.int .i64 a0_3) := (blk_cell BK576.out 3).trans rfl; have hcz48_4 : w47.cell? ⟨gb576, 4, none⟩ = some (.int .i64 a0_4) := (blk_cell BK576.out 4).trans rfl; have hcz48_5 : w47.cell? ⟨gb576, 5, none⟩ = some (.int .i64 a0_5) := (blk_cell BK576.out 5).trans rfl; have hcz48_6 : w47.cell? ⟨gb576, 6, none⟩ = some (.int .i64 a0_6) := (blk_cell BK576.out 6).trans rfl; have hfz48_0 := blk_frozen BK576.out 0; have hfz48_1 := blk_frozen BK576.out 1; have hfz48_2 := blk_frozen BK576.out 2; have hfz48_3 := blk_frozen BK576.out 3; have hfz48_4 := blk_frozen BK576.out 4; have hfz48_5 := blk_frozen BK576.out 5; have hfz48_6 := blk_frozen BK576.out 6) | ((with_reducible refine gate_callee (f := 14) rfl ?_); refine goesL_ (some 69) rfl rfl Try.func14 (by kernel_rfl) rfl #[.agg #[.bool a0_0, .int .i64 a0_1, .int .i64 a0_2, .int .i64 a0_3, .int .i64 a0_4, .int .i64 a0_5, .int .i64 a0_6], .int .i64 t582] rfl (by (try simp only [List.map_toArray, List.map_cons, List.map_nil]); first | done | rfl | (simp only [List.length_drop, List.length_take]; rfl)) ?_; (with_reducible refine (timesync_Bound.calls kj5 a0_0 a0_1 a0_2 a0_3 a0_4 a0_5 a0_6 t582 t584 t585 _ A42.out).mono ?_); rintro e w49 ⟨rfl, hb⟩; refine ⟨_, rfl, ?_⟩; have n0_ := Aside0.mk (blk_below (g := gb576) (o := .cells #[.bool a0_0, .int .i64 a0_1, .int .i64 a0_2, .int .i64 a0_3, .int .i64 a0_4, .int .i64 a0_5, .int .i64 a0_6] 25 (0, 0)) (by (with_reducible repeat (first | refine blk_drewN ?_ _ | refine blk_drew ?_ | refine blk_alloc ?_ _)); exact BK576.out) hb); have n1_ := Aside0.mk (blk_below (g := gb577) (o := .cells #[.int .i64 a1_0, .int .i64 a1_1] 47 (0, 0)) (by (with_reducible repeat (first | refine blk_drewN ?_ _ | refine blk_drew ?_ | refine blk_alloc ?_ _)); exact BK577.out) hb); have n2_ := Aside0.mk (below_step (by repeat (first | (with_reducible first | exact HB.out | apply below_alloc | apply pw_below_drewN | apply below_drew1 | refine below_set ?_ GE576.out | refine below_set ?_ GE577.out) | exact HB.out)) hb); clear BK576; clear BK577; clear HB; have BK576 := n0_; have BK577 := n1_; have HB := n2_; clear n0_ n1_ n2_; (try clear hb); (try clear hb2); (try clear hk); (try clear hi); have hcz50_0 : w49.cell? ⟨gb576, 0, none⟩ = some (.bool a0_0) := (blk_cell BK576.out 0).trans rfl; have hcz50_1 : w49.cell? ⟨gb576, 1, none⟩ = some (.int .i64 a0_1) := (blk_cell BK576.out 1).trans rfl; have hcz50_2 : w49.cell? ⟨gb576, 2, none⟩ = some (.int .i64 a0_2) := (blk_cell BK576.out 2).trans rfl; have hcz50_3 : w49.cell? ⟨gb576, 3, none⟩ = some (.int .i64 a0_3) := (blk_cell BK576.out 3).trans rfl; have hcz50_4 : w49.cell? ⟨gb576, 4, none⟩ = some (.int .i64 a0_4) := (blk_cell BK576.out 4).trans rfl; have hcz50_5 : w49.cell? ⟨gb576, 5, none⟩ = some (.int .i64 a0_5) := (blk_cell BK576.out 5).trans rfl; have hcz50_6 : w49.cell? ⟨gb576, 6, none⟩ = some (.int .i64 a0_6) := (blk_cell BK576.out 6).trans rfl; have hfz50_0 := blk_frozen BK576.out 0; have hfz50_1 := blk_frozen BK576.out 1; have hfz50_2 := blk_frozen BK576.out 2; have hfz50_3 := blk_frozen BK576.out 3; have hfz50_4 := blk_frozen BK576.out 4; have hfz50_5 := blk_frozen BK576.out 5; have hfz50_6 := blk_frozen BK576.out 6) | ((with_reducible refine gate_callee (f := 23) rfl ?_); refine goesL_ (some 76) rfl rfl Try.func23 (by kernel_rfl) rfl #[.agg #[.int .i64 a0_1, .int .i64 a0_2, .int .i64 a0_3], .int .i64 t582] rfl (by (try simp only [List.map_toArray, List.map_cons, List.map_nil]); first | done | rfl | (simp only [List.length_drop, List.length_take]; rfl)) ?_; (with_reducible refine (bound_Grow.calls kj5 a0_1 a0_2 a0_3 t582 t586 t587 t588 t589 _ A43.out).mono ?_); rintro e w51 ⟨rfl, hb⟩; refine ⟨_, rfl, ?_⟩; have n0_ := Aside0.mk (blk_below (g := gb576) (o := .cells #[.bool a0_0, .int .i64 a0_1, .int .i64 a0_2, .int .i64 a0_3, .int .i64 a0_4, .int .i64 a0_5, .int .i64 a0_6] 25 (0, 0)) (by (with_reducible repeat (first | refine blk_drewN ?_ _ | refine blk_drew ?_ | refine blk_alloc ?_ _)); exact BK576.out) hb); have n1_ := Aside0.mk (blk_below (g := gb577) (o := .cells #[.int .i64 a1_0, .int .i64 a1_1] 47 (0, 0)) (by (with_reducible repeat (first | refine blk_drewN ?_ _ | refine blk_drew ?_ | refine blk_alloc ?_ _)); exact BK577.out) hb); have n2_ := Aside0.mk (below_step (by repeat (first | (with_reducible first | exact HB.out | apply below_alloc | apply pw_below_drewN | apply below_drew1 | refine below_set ?_ GE576.out | refine below_set ?_ GE577.out) | exact HB.out)) hb); clear BK576; clear BK577; clear HB; have BK576 := n0_; have BK577 := n1_; have HB := n2_; clear n0_ n1_ n2_; (try clear hb); (try clear hb2); (try clear hk); (try clear hi)) | ((with_reducible refine gate_dst (N := 14) rfl ?_); refine box_event ?hg (N := 14) ?hd (cs := #[.int .i64 0, .int .i64 0, .int .i64 0]) (t := 23) ?hr ?_; (case hd => rfl); (case hg => rfl); (case hr => first | (go_simp; done) | (go_simp; rfl)); intro gb590 hg w52 hbox hb; have n0_ := Aside0.mk (blk_below (g := gb576) (o := .cells #[.bool a0_0, .int .i64 a0_1, .int .i64 a0_2, .int .i64 a0_3, .int .i64 a0_4, .int .i64 a0_5, .int .i64 a0_6] 25 (0, 0)) (by (with_reducible repeat (first | refine blk_drewN ?_ _ | refine blk_drew ?_ | refine blk_alloc ?_ _)); exact BK576.out) hb); have n1_ := Aside0.mk (blk_below (g := gb577) (o := .cells #[.int .i64 a1_0, .int .i64 a1_1] 47 (0, 0)) (by (with_reducible repeat (first | refine blk_drewN ?_ _ | refine blk_drew ?_ | refine blk_alloc ?_ _)); exact BK577.out) hb); have n2_ := Aside0.mk (below_step (by repeat (first | (with_reducible first | exact HB.out | apply below_alloc | apply pw_below_drewN | apply below_drew1 | refine below_set ?_ GE576.out | refine below_set ?_ GE577.out) | exact HB.out)) hb); have n3_ := Aside0.mk (hbox); have n4_ := Aside0.mk ((by rw [hg]; exact (below_size (by repeat (first | (with_reducible first | exact HB.out | apply below_alloc | apply pw_below_drewN | apply below_drew1 | refine below_set ?_ GE576.out | refine below_set ?_ GE577.out) | exact HB.out))) : w.heap.size ≤ gb590)); have n5_ := Aside0.mk ((by rw [hg]; exact (below_size (by repeat (first | (with_reducible first | exact HB.out | apply below_alloc | apply pw_below_drewN | apply below_drew1 | refine below_set ?_ GE576.out | refine below_set ?_ GE577.out) | exact HB.out))) : w.heap.size ≤ gb590)); have n6_ := Aside0.mk ((by rw [hg]; exact Nat.ne_of_lt (blk_lt (g := gb576) (o := .cells #[.bool a0_0, .int .i64 a0_1, .int .i64 a0_2, .int .i64 a0_3, .int .i64 a0_4, .int .i64 a0_5, .int .i64 a0_6] 25 (0, 0)) (by (with_reducible repeat (first | refine blk_drewN ?_ _ | refine blk_drew ?_ | refine blk_alloc ?_ _)); exact BK576.out)) : gb576 ≠ gb590)); have n7_ := Aside0.mk ((by rw [hg]; exact Nat.ne_of_gt (blk_lt (g := gb576) (o := .cells #[.bool a0_0, .int .i64 a0_1, .int .i64 a0_2, .int .i64 a0_3, .int .i64 a0_4, .int .i64 a0_5, .int .i64 a0_6] 25 (0, 0)) (by (with_reducible repeat (first | refine blk_drewN ?_ _ | refine blk_drew ?_ | refine blk_alloc ?_ _)); exact BK576.out)) : gb590 ≠ gb576)); have n8_ := Aside0.mk ((by rw [hg]; exact Nat.ne_of_lt (blk_lt (g := gb577) (o := .cells #[.int .i64 a1_0, .int .i64 a1_1] 47 (0, 0)) (by (with_reducible repeat (first | refine blk_drewN ?_ _ | refine blk_drew ?_ | refine blk_alloc ?_ _)); exact BK577.out)) : gb577 ≠ gb590)); have n9_ := Aside0.mk ((by rw [hg]; exact Nat.ne_of_gt (blk_lt (g := gb577) (o := .cells #[.int .i64 a1_0, .int .i64 a1_1] 47 (0, 0)) (by (with_reducible repeat (first | refine blk_drewN ?_ _ | refine blk_drew ?_ | refine blk_alloc ?_ _)); exact BK577.out)) : gb590 ≠ gb577)); clear BK576; clear BK577; clear HB; have BK576 := n0_; have BK577 := n1_; have HB := n2_; have BK590 := n3_; have GW590 := n4_; have GE590 := n5_; have NB576_590 := n6_; have NB590_576 := n7_; have NB577_590 := n8_; have NB590_577 := n9_; clear n0_ n1_ n2_ n3_ n4_ n5_ n6_ n7_ n8_ n9_; clear hb hbox hg; have hnb53 := NB590_576.out; have hnc53 := NB576_590.out; have hnb54 := NB590_577.out; have hnc54 := NB577_590.out; have hcz55_0 : w52.cell? ⟨gb590, 0, none⟩ = some (.int .i64 0) := (blk_cell BK590.out 0).trans rfl; have hcz55_1 : w52.cell? ⟨gb590, 1, none⟩ = some (.int .i64 0) := (blk_cell BK590.out 1).trans rfl; have hcz55_2 : w52.cell? ⟨gb590, 2, none⟩ = some (.int .i64 0) := (blk_cell BK590.out 2).trans rfl; have hfz55_0 := blk_frozen BK590.out 0; have hfz55_1 := blk_frozen BK590.out 1; have hfz55_2 := blk_frozen BK590.out 2))
        (try simp only [Act.put, List.setIfInBounds_toArray, List.set_cons_zero, List.set_cons_succ])
        go_cut [88] (fun v88 wc => ∃ (kq : Nat) (x88_43 : Bool), v88 = .bool x88_43 ∧ Aside0 (slotmeshlaw09_TimesyncEstimate.j1 kq a2 a3 t578 t582 t583 t584 t585 t589 x88_43 t586 t587 t588 = some r) ∧ Aside0 (kq ≤ kj5) ∧ Aside0 (wc.heap[gb576]? = some (.cells #[.bool a0_0, .int .i64 a0_1, .int .i64 a0_2, .int .i64 a0_3, .int .i64 a0_4, .int .i64 a0_5, .int .i64 a0_6] 25 (0, 0))) ∧ Aside0 (wc.heap[gb577]? = some (.cells #[.int .i64 a1_0, .int .i64 a1_1] 47 (0, 0))) ∧ Aside0 (wc.heap[gb590]? = some (.cells #[.int .i64 t586, .int .i64 t587, .int .i64 t588] 23 (0, 0))) ∧ Aside0 (Below w.heap.size w wc))
        case first =>
          have H := HC44.out
          clear HC44
          by_cases c56 : t583 = 0
          · rw [if_pos c56] at H
            have c56b0 : (t583 == 0) = true := beq_iff_eq.mpr c56
            have c56b1 : (t583 != 0) = false := bne_eq_false_iff_eq.mpr c56
            clear c56
            (first | rw [c56b0] | (simp only [i64_w, i32_w]; rw [c56b0]) | skip)
            by_cases c57 : t585 = 0
            · rw [if_pos c57] at H
              have c57b0 : (t585 == 0) = true := beq_iff_eq.mpr c57
              have c57b1 : (t585 != 0) = false := bne_eq_false_iff_eq.mpr c57
              clear c57
              have H' := Aside0.mk H
              clear H
              go_wp2
              go_meet
              case rel => exact ⟨_, ((t589 != 0)), (by first | rfl | (simp; done) | (simp [*]; done)), H', ⟨by have := HJ5.out; first | omega | exact Nat.le_refl _⟩, ⟨by (with_reducible repeat (first | refine blk_drewN ?_ _ | refine blk_drew ?_ | refine blk_alloc ?_ _)); refine blk_far ?_ NB576_590.out _; (with_reducible repeat (first | refine blk_drewN ?_ _ | refine blk_drew ?_ | refine blk_alloc ?_ _)); refine blk_far ?_ NB576_590.out _; (with_reducible repeat (first | refine blk_drewN ?_ _ | refine blk_drew ?_ | refine blk_alloc ?_ _)); refine blk_far ?_ NB576_590.out _; (with_reducible repeat (first | refine blk_drewN ?_ _ | refine blk_drew ?_ | refine blk_alloc ?_ _)); exact BK576.out⟩, ⟨by (with_reducible repeat (first | refine blk_drewN ?_ _ | refine blk_drew ?_ | refine blk_alloc ?_ _)); refine blk_far ?_ NB577_590.out _; (with_reducible repeat (first | refine blk_drewN ?_ _ | refine blk_drew ?_ | refine blk_alloc ?_ _)); refine blk_far ?_ NB577_590.out _; (with_reducible repeat (first | refine blk_drewN ?_ _ | refine blk_drew ?_ | refine blk_alloc ?_ _)); refine blk_far ?_ NB577_590.out _; (with_reducible repeat (first | refine blk_drewN ?_ _ | refine blk_drew ?_ | refine blk_alloc ?_ _)); exact BK577.out⟩, ⟨by (with_reducible repeat (first | refine blk_drewN ?_ _ | refine blk_drew ?_ | refine blk_alloc ?_ _)); refine blk_put (cs := #[.int .i64 t586, .int .i64 t587, .int .i64 0]) ?_ 2 _ rfl; (with_reducible repeat (first | refine blk_drewN ?_ _ | refine blk_drew ?_ | refine blk_alloc ?_ _)); refine blk_put (cs := #[.int .i64 t586, .int .i64 0, .int .i64 0]) ?_ 1 _ rfl; (with_reducible repeat (first | refine blk_drewN ?_ _ | refine blk_drew ?_ | refine blk_alloc ?_ _)); refine blk_put (cs := #[.int .i64 0, .int .i64 0, .int .i64 0]) ?_ 0 _ rfl; (with_reducible repeat (first | refine blk_drewN ?_ _ | refine blk_drew ?_ | refine blk_alloc ?_ _)); exact BK590.out⟩, ⟨by repeat (first | (with_reducible first | exact HB.out | apply below_alloc | apply pw_below_drewN | apply below_drew1 | refine below_set ?_ GE576.out | refine below_set ?_ GE577.out | refine below_set ?_ GE590.out) | exact HB.out)⟩⟩
            · rw [if_neg c57] at H
              have c57b0 : (t585 == 0) = false := beq_eq_false_iff_ne.mpr c57
              have c57b1 : (t585 != 0) = true := bne_iff_ne.mpr c57
              have H' := Aside0.mk H
              clear H
              go_wp2
              go_meet
              case rel => exact ⟨_, (true), (by first | rfl | (simp; done) | (simp [*]; done)), H', ⟨by have := HJ5.out; first | omega | exact Nat.le_refl _⟩, ⟨by (with_reducible repeat (first | refine blk_drewN ?_ _ | refine blk_drew ?_ | refine blk_alloc ?_ _)); refine blk_far ?_ NB576_590.out _; (with_reducible repeat (first | refine blk_drewN ?_ _ | refine blk_drew ?_ | refine blk_alloc ?_ _)); refine blk_far ?_ NB576_590.out _; (with_reducible repeat (first | refine blk_drewN ?_ _ | refine blk_drew ?_ | refine blk_alloc ?_ _)); refine blk_far ?_ NB576_590.out _; (with_reducible repeat (first | refine blk_drewN ?_ _ | refine blk_drew ?_ | refine blk_alloc ?_ _)); exact BK576.out⟩, ⟨by (with_reducible repeat (first | refine blk_drewN ?_ _ | refine blk_drew ?_ | refine blk_alloc ?_ _)); refine blk_far ?_ NB577_590.out _; (with_reducible repeat (first | refine blk_drewN ?_ _ | refine blk_drew ?_ | refine blk_alloc ?_ _)); refine blk_far ?_ NB577_590.out _; (with_reducible repeat (first | refine blk_drewN ?_ _ | refine blk_drew ?_ | refine blk_alloc ?_ _)); refine blk_far ?_ NB577_590.out _; (with_reducible repeat (first | refine blk_drewN ?_ _ | refine blk_drew ?_ | refine blk_alloc ?_ _)); exact BK577.out⟩, ⟨by (with_reducible repeat (first | refine blk_drewN ?_ _ | refine blk_drew ?_ | refine blk_alloc ?_ _)); refine blk_put (cs := #[.int .i64 t586, .int .i64 t587, .int .i64 0]) ?_ 2 _ rfl; (with_reducible repeat (first | refine blk_drewN ?_ _ | refine blk_drew ?_ | refine blk_alloc ?_ _)); refine blk_put (cs := #[.int .i64 t586, .int .i64 0, .int .i64 0]) ?_ 1 _ rfl; (with_reducible repeat (first | refine blk_drewN ?_ _ | refine blk_drew ?_ | refine blk_alloc ?_ _)); refine blk_put (cs := #[.int .i64 0, .int .i64 0, .int .i64 0]) ?_ 0 _ rfl; (with_reducible repeat (first | refine blk_drewN ?_ _ | refine blk_drew ?_ | refine blk_alloc ?_ _)); exact BK590.out⟩, ⟨by repeat (first | (with_reducible first | exact HB.out | apply below_alloc | apply pw_below_drewN | apply below_drew1 | refine below_set ?_ GE576.out | refine below_set ?_ GE577.out | refine below_set ?_ GE590.out) | exact HB.out)⟩⟩
          · rw [if_neg c56] at H
            have c56b0 : (t583 == 0) = false := beq_eq_false_iff_ne.mpr c56
            have c56b1 : (t583 != 0) = true := bne_iff_ne.mpr c56
            (first | rw [c56b0] | (simp only [i64_w, i32_w]; rw [c56b0]) | skip)
            have H' := Aside0.mk H
            clear H
            go_wp2
            go_meet
            case rel => exact ⟨_, (true), (by first | rfl | (simp; done) | (simp [*]; done)), H', ⟨by have := HJ5.out; first | omega | exact Nat.le_refl _⟩, ⟨by (with_reducible repeat (first | refine blk_drewN ?_ _ | refine blk_drew ?_ | refine blk_alloc ?_ _)); refine blk_far ?_ NB576_590.out _; (with_reducible repeat (first | refine blk_drewN ?_ _ | refine blk_drew ?_ | refine blk_alloc ?_ _)); refine blk_far ?_ NB576_590.out _; (with_reducible repeat (first | refine blk_drewN ?_ _ | refine blk_drew ?_ | refine blk_alloc ?_ _)); refine blk_far ?_ NB576_590.out _; (with_reducible repeat (first | refine blk_drewN ?_ _ | refine blk_drew ?_ | refine blk_alloc ?_ _)); exact BK576.out⟩, ⟨by (with_reducible repeat (first | refine blk_drewN ?_ _ | refine blk_drew ?_ | refine blk_alloc ?_ _)); refine blk_far ?_ NB577_590.out _; (with_reducible repeat (first | refine blk_drewN ?_ _ | refine blk_drew ?_ | refine blk_alloc ?_ _)); refine blk_far ?_ NB577_590.out _; (with_reducible repeat (first | refine blk_drewN ?_ _ | refine blk_drew ?_ | refine blk_alloc ?_ _)); refine blk_far ?_ NB577_590.out _; (with_reducible repeat (first | refine blk_drewN ?_ _ | refine blk_drew ?_ | refine blk_alloc ?_ _)); exact BK577.out⟩, ⟨by (with_reducible repeat (first | refine blk_drewN ?_ _ | refine blk_drew ?_ | refine blk_alloc ?_ _)); refine blk_put (cs := #[.int .i64 t586, .int .i64 t587, .int .i64 0]) ?_ 2 _ rfl; (with_reducible repeat (first | refine blk_drewN ?_ _ | refine blk_drew ?_ | refine blk_alloc ?_ _)); refine blk_put (cs := #[.int .i64 t586, .int .i64 0, .int .i64 0]) ?_ 1 _ rfl; (with_reducible repeat (first | refine blk_drewN ?_ _ | refine blk_drew ?_ | refine blk_alloc ?_ _)); refine blk_put (cs := #[.int .i64 0, .int .i64 0, .int .i64 0]) ?_ 0 _ rfl; (with_reducible repeat (first | refine blk_drewN ?_ _ | refine blk_drew ?_ | refine blk_alloc ?_ _)); exact BK590.out⟩, ⟨by repeat (first | (with_reducible first | exact HB.out | apply below_alloc | apply pw_below_drewN | apply below_drew1 | refine below_set ?_ GE576.out | refine below_set ?_ GE577.out | refine below_set ?_ GE590.out) | exact HB.out)⟩⟩
        case rest =>
          clear HC44
          try clear c1
          try clear c2
          try clear p2
          try clear c3
          try clear c4
          try clear c5
          try clear p6
          try clear c10
          try clear c10b0
          try clear c11
          try clear c11b0
          try clear c12
          try clear c12b0
          try clear c13
          try clear c13b0
          try clear c14
          try clear c15
          try clear c16
          try clear c18
          try clear c19
          try clear c23
          try clear c24
          try clear c25
          try clear c33
          try clear c37
          try clear c40
          try clear c45
          try clear c53
          try clear c54
          try clear c56
          try clear c56b0
          try clear c56b1
          try clear c57
          try clear c57b0
          try clear c57b1
          try clear hcz20_0
          try clear hcz20_1
          try clear hcz20_2
          try clear hcz20_3
          try clear hcz20_4
          try clear hcz20_5
          try clear hcz20_6
          try clear hcz22_0
          try clear hcz22_1
          try clear hcz22_2
          try clear hcz22_3
          try clear hcz22_4
          try clear hcz22_5
          try clear hcz22_6
          try clear hcz26_0
          try clear hcz26_1
          try clear hcz26_2
          try clear hcz26_3
          try clear hcz26_4
          try clear hcz26_5
          try clear hcz26_6
          try clear hcz28_0
          try clear hcz28_1
          try clear hcz28_2
          try clear hcz28_3
          try clear hcz28_4
          try clear hcz28_5
          try clear hcz28_6
          try clear hcz30_0
          try clear hcz30_1
          try clear hcz30_2
          try clear hcz30_3
          try clear hcz30_4
          try clear hcz30_5
          try clear hcz30_6
          try clear hcz31_0
          try clear hcz31_1
          try clear hcz34_0
          try clear hcz34_1
          try clear hcz34_2
          try clear hcz34_3
          try clear hcz34_4
          try clear hcz34_5
          try clear hcz34_6
          try clear hcz36_0
          try clear hcz36_1
          try clear hcz36_2
          try clear hcz36_3
          try clear hcz36_4
          try clear hcz36_5
          try clear hcz36_6
          try clear hcz38_0
          try clear hcz38_1
          try clear hcz38_2
          try clear hcz38_3
          try clear hcz38_4
          try clear hcz38_5
          try clear hcz38_6
          try clear hcz46_0
          try clear hcz46_1
          try clear hcz48_0
          try clear hcz48_1
          try clear hcz48_2
          try clear hcz48_3
          try clear hcz48_4
          try clear hcz48_5
          try clear hcz48_6
          try clear hcz50_0
          try clear hcz50_1
          try clear hcz50_2
          try clear hcz50_3
          try clear hcz50_4
          try clear hcz50_5
          try clear hcz50_6
          try clear hcz55_0
          try clear hcz55_1
          try clear hcz55_2
          try clear hfz20_0
          try clear hfz20_1
          try clear hfz20_2
          try clear hfz20_3
          try clear hfz20_4
          try clear hfz20_5
          try clear hfz20_6
          try clear hfz22_0
          try clear hfz22_1
          try clear hfz22_2
          try clear hfz22_3
          try clear hfz22_4
          try clear hfz22_5
          try clear hfz22_6
          try clear hfz26_0
          try clear hfz26_1
          try clear hfz26_2
          try clear hfz26_3
          try clear hfz26_4
          try clear hfz26_5
          try clear hfz26_6
          try clear hfz28_0
          try clear hfz28_1
          try clear hfz28_2
          try clear hfz28_3
          try clear hfz28_4
          try clear hfz28_5
          try clear hfz28_6
          try clear hfz30_0
          try clear hfz30_1
          try clear hfz30_2
          try clear hfz30_3
          try clear hfz30_4
          try clear hfz30_5
          try clear hfz30_6
          try clear hfz31_0
          try clear hfz31_1
          try clear hfz34_0
          try clear hfz34_1
          try clear hfz34_2
          try clear hfz34_3
          try clear hfz34_4
          try clear hfz34_5
          try clear hfz34_6
          try clear hfz36_0
          try clear hfz36_1
          try clear hfz36_2
          try clear hfz36_3
          try clear hfz36_4
          try clear hfz36_5
          try clear hfz36_6
          try clear hfz38_0
          try clear hfz38_1
          try clear hfz38_2
          try clear hfz38_3
          try clear hfz38_4
          try clear hfz38_5
          try clear hfz38_6
          try clear hfz46_0
          try clear hfz46_1
          try clear hfz48_0
          try clear hfz48_1
          try clear hfz48_2
          try clear hfz48_3
          try clear hfz48_4
          try clear hfz48_5
          try clear hfz48_6
          try clear hfz50_0
          try clear hfz50_1
          try clear hfz50_2
          try clear hfz50_3
          try clear hfz50_4
          try clear hfz50_5
          try clear hfz50_6
          try clear hfz55_0
          try clear hfz55_1
          try clear hfz55_2
          try clear p2
          try clear p6
          obtain ⟨kq, x88_43, rfl, HA, HJ43, BK576, BK577, BK590, HB⟩ := hcut
          cases kq with
          | zero => exact absurd HA.out (by simp [slotmeshlaw09_TimesyncEstimate.j1])
          | succ kj43 =>
            have H := HA.out
            clear HA
            simp only [slotmeshlaw09_TimesyncEstimate.j1] at H
            by_cases c58 : x88_43 = true
            · subst c58
              have H1 : (if t578 = true then (if t583 = 0 then (if t585 = t589 then (some true) else (some (t585 == 16))) else (none)) else (none)) = some r := by rw [if_pos rfl] at H; exact H
              clear H
              have H := H1
              clear H1
              by_cases c59 : t578 = true
              · subst c59
                have H1 : (if t583 = 0 then (if t585 = t589 then (some true) else (some (t585 == 16))) else (none)) = some r := by rw [if_pos rfl] at H; exact H
                clear H
                have H := H1
                clear H1
                by_cases c60 : t583 = 0
                · rw [if_pos c60] at H
                  have c60b0 : (t583 == 0) = true := beq_iff_eq.mpr c60
                  have c60b1 : (t583 != 0) = false := bne_eq_false_iff_eq.mpr c60
                  clear c60
                  by_cases c61 : t585 = t589
                  · rw [if_pos c61] at H
                    have c61b0 : (t585 == t589) = true := beq_iff_eq.mpr c61
                    have c61b1 : (t585 != t589) = false := bne_eq_false_iff_eq.mpr c61
                    clear c61
                    obtain rfl := Option.some.inj H
                    go_wp2
                    go_ret
                    exact ⟨by first | rfl | (simp [errW_none, errW_some] <;> rfl) | (simp [*, errW_none, errW_some] <;> rfl), by repeat (first | (with_reducible first | exact HB.out | apply below_alloc | apply pw_below_drewN | apply below_drew1 | refine below_set ?_ GE576.out | refine below_set ?_ GE577.out | refine below_set ?_ GE590.out) | exact HB.out)⟩
                  · rw [if_neg c61] at H
                    have c61b0 : (t585 == t589) = false := beq_eq_false_iff_ne.mpr c61
                    have c61b1 : (t585 != t589) = true := bne_iff_ne.mpr c61
                    obtain rfl := Option.some.inj H
                    go_wp2
                    go_ret
                    exact ⟨by first | rfl | (simp [errW_none, errW_some] <;> rfl) | (simp [*, errW_none, errW_some] <;> rfl), by repeat (first | (with_reducible first | exact HB.out | apply below_alloc | apply pw_below_drewN | apply below_drew1 | refine below_set ?_ GE576.out | refine below_set ?_ GE577.out | refine below_set ?_ GE590.out) | exact HB.out)⟩
                · rw [if_neg c60] at H
                  exact absurd H (by simp)
              · replace c59 := Bool.eq_false_iff.mpr c59
                subst c59
                have H1 : (none) = some r := by rw [if_neg (show ¬ (false = true) by decide)] at H; exact H
                clear H
                have H := H1
                clear H1
                exact absurd H (by simp)
            · replace c58 := Bool.eq_false_iff.mpr c58
              subst c58
              have H1 : (if (wrap64 (t586 + t587)) < 0 then (if t578 = true then (if (wrap64 ((wrap64 (a2 + a3)) - (wrap64 (t582 + (wrap64 (Int.tdiv (wrap64 ((wrap64 (t586 + t587)) - 1)) 2)))))) ≤ t584 then (some (decide ((wrap64 ((wrap64 ((wrap64 (t582 + (wrap64 (Int.tdiv (wrap64 ((wrap64 (t586 + t587)) - 1)) 2)))) - a2)) - a3)) ≤ t584))) else (none)) else (none)) else (if t578 = true then (if (wrap64 ((wrap64 (a2 + a3)) - (wrap64 (t582 + (wrap64 (Int.tdiv (wrap64 (t586 + t587)) 2)))))) ≤ t584 then (some (decide ((wrap64 ((wrap64 ((wrap64 (t582 + (wrap64 (Int.tdiv (wrap64 (t586 + t587)) 2)))) - a2)) - a3)) ≤ t584))) else (none)) else (none))) = some r := by rw [if_neg (show ¬ (false = true) by decide)] at H; exact H
              clear H
              have H := H1
              clear H1
              by_cases c62 : (wrap64 (t586 + t587)) < 0
              · rw [if_pos c62] at H
                have c62b0 : decide ((wrap64 (t586 + t587)) < 0) = true := decide_eq_true c62
                clear c62
                by_cases c63 : t578 = true
                · subst c63
                  have H1 : (if (wrap64 ((wrap64 (a2 + a3)) - (wrap64 (t582 + (wrap64 (Int.tdiv (wrap64 ((wrap64 (t586 + t587)) - 1)) 2)))))) ≤ t584 then (some (decide ((wrap64 ((wrap64 ((wrap64 (t582 + (wrap64 (Int.tdiv (wrap64 ((wrap64 (t586 + t587)) - 1)) 2)))) - a2)) - a3)) ≤ t584))) else (none)) = some r := by rw [if_pos rfl] at H; exact H
                  clear H
                  have H := H1
                  clear H1
                  by_cases c64 : (wrap64 ((wrap64 (a2 + a3)) - (wrap64 (t582 + (wrap64 (Int.tdiv (wrap64 ((wrap64 (t586 + t587)) - 1)) 2)))))) ≤ t584
                  · rw [if_pos c64] at H
                    have c64b0 : decide ((wrap64 ((wrap64 (a2 + a3)) - (wrap64 (t582 + (wrap64 (Int.tdiv (wrap64 ((wrap64 (t586 + t587)) - 1)) 2)))))) ≤ t584) = true := decide_eq_true c64
                    clear c64
                    obtain rfl := Option.some.inj H
                    have hnb65 := NB590_576.out
                    have hnc65 := NB576_590.out
                    have hnb66 := NB590_577.out
                    have hnc66 := NB577_590.out
                    have hcz67_0 : wc.cell? ⟨gb590, 0, none⟩ = some (.int .i64 t586) := (blk_cell BK590.out 0).trans rfl
                    have hcz67_1 : wc.cell? ⟨gb590, 1, none⟩ = some (.int .i64 t587) := (blk_cell BK590.out 1).trans rfl
                    have hcz67_2 : wc.cell? ⟨gb590, 2, none⟩ = some (.int .i64 t588) := (blk_cell BK590.out 2).trans rfl
                    have hfz67_0 := blk_frozen BK590.out 0
                    have hfz67_1 := blk_frozen BK590.out 1
                    have hfz67_2 := blk_frozen BK590.out 2
                    go_wp2
                    go_ret
                    exact ⟨by first | rfl | (simp [errW_none, errW_some] <;> rfl) | (simp [*, errW_none, errW_some] <;> rfl), by repeat (first | (with_reducible first | exact HB.out | apply below_alloc | apply pw_below_drewN | apply below_drew1 | refine below_set ?_ GE576.out | refine below_set ?_ GE577.out | refine below_set ?_ GE590.out) | exact HB.out)⟩
                  · rw [if_neg c64] at H
                    exact absurd H (by simp)
                · replace c63 := Bool.eq_false_iff.mpr c63
                  subst c63
                  have H1 : (none) = some r := by rw [if_neg (show ¬ (false = true) by decide)] at H; exact H
                  clear H
                  have H := H1
                  clear H1
                  exact absurd H (by simp)
              · rw [if_neg c62] at H
                have c62b0 : decide ((wrap64 (t586 + t587)) < 0) = false := decide_eq_false c62
                clear c62
                by_cases c68 : t578 = true
                · subst c68
                  have H1 : (if (wrap64 ((wrap64 (a2 + a3)) - (wrap64 (t582 + (wrap64 (Int.tdiv (wrap64 (t586 + t587)) 2)))))) ≤ t584 then (some (decide ((wrap64 ((wrap64 ((wrap64 (t582 + (wrap64 (Int.tdiv (wrap64 (t586 + t587)) 2)))) - a2)) - a3)) ≤ t584))) else (none)) = some r := by rw [if_pos rfl] at H; exact H
                  clear H
                  have H := H1
                  clear H1
                  by_cases c69 : (wrap64 ((wrap64 (a2 + a3)) - (wrap64 (t582 + (wrap64 (Int.tdiv (wrap64 (t586 + t587)) 2)))))) ≤ t584
                  · rw [if_pos c69] at H
                    have c69b0 : decide ((wrap64 ((wrap64 (a2 + a3)) - (wrap64 (t582 + (wrap64 (Int.tdiv (wrap64 (t586 + t587)) 2)))))) ≤ t584) = true := decide_eq_true c69
                    clear c69
                    obtain rfl := Option.some.inj H
                    have hnb70 := NB590_576.out
                    have hnc70 := NB576_590.out
                    have hnb71 := NB590_577.out
                    have hnc71 := NB577_590.out
                    have hcz72_0 : wc.cell? ⟨gb590, 0, none⟩ = some (.int .i64 t586) := (blk_cell BK590.out 0).trans rfl
                    have hcz72_1 : wc.cell? ⟨gb590, 1, none⟩ = some (.int .i64 t587) := (blk_cell BK590.out 1).trans rfl
                    have hcz72_2 : wc.cell? ⟨gb590, 2, none⟩ = some (.int .i64 t588) := (blk_cell BK590.out 2).trans rfl
                    have hfz72_0 := blk_frozen BK590.out 0
                    have hfz72_1 := blk_frozen BK590.out 1
                    have hfz72_2 := blk_frozen BK590.out 2
                    go_wp2
                    go_ret
                    exact ⟨by first | rfl | (simp [errW_none, errW_some] <;> rfl) | (simp [*, errW_none, errW_some] <;> rfl), by repeat (first | (with_reducible first | exact HB.out | apply below_alloc | apply pw_below_drewN | apply below_drew1 | refine below_set ?_ GE576.out | refine below_set ?_ GE577.out | refine below_set ?_ GE590.out) | exact HB.out)⟩
                  · rw [if_neg c69] at H
                    exact absurd H (by simp)
                · replace c68 := Bool.eq_false_iff.mpr c68
                  subst c68
                  have H1 : (none) = some r := by rw [if_neg (show ¬ (false = true) by decide)] at H; exact H
                  clear H
                  have H := H1
                  clear H1
                  exact absurd H (by simp)
end Go.Proofs.Ytkbfhonoamgjgaa.P
end
