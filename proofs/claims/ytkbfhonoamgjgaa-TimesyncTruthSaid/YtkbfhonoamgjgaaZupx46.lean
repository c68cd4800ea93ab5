/- A claim's own texts, laid together by wip/zip.py without what the claim does not use. Conditions: none. -/
import Derived.Test.YtkbfhonoamgjgaaZupx0
import Derived.Test.YtkbfhonoamgjgaaZupx1
import Derived.Test.YtkbfhonoamgjgaaZupx12
import Derived.Test.YtkbfhonoamgjgaaZupx18
import Derived.Test.YtkbfhonoamgjgaaZupx20
import Derived.Test.YtkbfhonoamgjgaaZupx22
import Derived.Test.YtkbfhonoamgjgaaZupx23
import Derived.Test.YtkbfhonoamgjgaaZupx24
import Derived.Test.YtkbfhonoamgjgaaZupx43
import Derived.Test.YtkbfhonoamgjgaaZupx45
section
/- The Go functions of this claim as Lean functions, and the proofs that their calls answer so: written by wip/myprint.py over the kit's printer, hand-proved contracts laid in. Conditions: none. -/
namespace Go.Proofs.Ytkbfhonoamgjgaa.P
open Go.RowKit Go.Proofs.YtkbfhonoamgjgaaW.PrintWords Go.Proofs.YtkbfhonoamgjgaaW.PrintLast Go.Proofs.YtkbfhonoamgjgaaW.PrintMore
attribute [local go_sem] max2_int min2_int max_two min_two max_three min_three max_four min_four   -- for this text's walks alone
set_option linter.unusedVariables false
set_option linter.unusedSimpArgs false
attribute [local go_sem high] eqA25
/-! ### slotmeshlaw09_TimesyncTruth: function 9 -/
mutual
def slotmeshlaw09_TimesyncTruth.j0 : Nat → Int → Int → Int → Bool → Bool → Bool → Int → Int → Int → Int → Int → Int → Int → Int → Int → Int → Int → Int → Int → Option (Bool)
  | 0, _, _, _, _, _, _, _, _, _, _, _, _, _, _, _, _, _, _, _ => none
  | k + 1, x3, x4, x5, x13, x70, x541000, x541001, x541002, x541003, x541004, x541005, x541006, x542000, x542001, x543000, x543001, x543002, x543003, x543004 => if x70 = true then (some x13) else ((clock_Show.f x542000 x542001 (wrap64 ((wrap64 ((wrap64 (Int.tdiv (wrap64 (x3 + x4)) 10000)) * 10000)) + x5))).bind fun bt544 => (if bt544.2 = 0 then (if (wrap64 ((wrap64 ((wrap64 (Int.tdiv (wrap64 (x3 + x4)) 10000)) * 10000)) + x5)) < x3 then (slotmeshlaw09_TimesyncTruth.j1 k x13 (wrap64 ((wrap64 ((wrap64 (Int.tdiv (wrap64 (x3 + x4)) 10000)) * 10000)) + x5)) true x541000 x541001 x541002 x541003 x541004 x541005 x541006 x542000 x542001 x543000 x543001 x543002 (wrap64 (Int.tdiv (wrap64 (x3 + x4)) 10000)) bt544.1) else ((slotmeshref09_Valid.f k x541000 x541001 x541002 x541003 x541004 x541005 x541006).bind fun t546 => (if t546 = true then ((slotmeshref09_Hint.f x543000 x543001 x543002 (wrap64 (Int.tdiv (wrap64 (x3 + x4)) 10000)) bt544.1).bind fun t547 => (if t547 = true then ((slotmeshref09_Root.f x541000 x541001 x541002 x541003 x541004 x541005 x541006).bind fun t548 => (if t548 = true then (slotmeshlaw09_TimesyncTruth.j1 k x13 (wrap64 ((wrap64 ((wrap64 (Int.tdiv (wrap64 (x3 + x4)) 10000)) * 10000)) + x5)) true x541000 x541001 x541002 x541003 x541004 x541005 x541006 x542000 x542001 x543000 x543001 x543002 (wrap64 (Int.tdiv (wrap64 (x3 + x4)) 10000)) bt544.1) else (if x541000 = true then ((slotmeshlaw09_holds.f x541000 x541001 x541002 x541003 x541004 x541005 x541006 x542000 x542001 x3).bind fun t549 => (slotmeshlaw09_TimesyncTruth.j1 k x13 (wrap64 ((wrap64 ((wrap64 (Int.tdiv (wrap64 (x3 + x4)) 10000)) * 10000)) + x5)) (!t549) x541000 x541001 x541002 x541003 x541004 x541005 x541006 x542000 x542001 x543000 x543001 x543002 (wrap64 (Int.tdiv (wrap64 (x3 + x4)) 10000)) bt544.1)) else (slotmeshlaw09_TimesyncTruth.j1 k x13 (wrap64 ((wrap64 ((wrap64 (Int.tdiv (wrap64 (x3 + x4)) 10000)) * 10000)) + x5)) false x541000 x541001 x541002 x541003 x541004 x541005 x541006 x542000 x542001 x543000 x543001 x543002 (wrap64 (Int.tdiv (wrap64 (x3 + x4)) 10000)) bt544.1)))) else (slotmeshlaw09_TimesyncTruth.j1 k x13 (wrap64 ((wrap64 ((wrap64 (Int.tdiv (wrap64 (x3 + x4)) 10000)) * 10000)) + x5)) true x541000 x541001 x541002 x541003 x541004 x541005 x541006 x542000 x542001 x543000 x543001 x543002 (wrap64 (Int.tdiv (wrap64 (x3 + x4)) 10000)) bt544.1))) else (slotmeshlaw09_TimesyncTruth.j1 k x13 (wrap64 ((wrap64 ((wrap64 (Int.tdiv (wrap64 (x3 + x4)) 10000)) * 10000)) + x5)) true x541000 x541001 x541002 x541003 x541004 x541005 x541006 x542000 x542001 x543000 x543001 x543002 (wrap64 (Int.tdiv (wrap64 (x3 + x4)) 10000)) bt544.1)))) else (slotmeshlaw09_TimesyncTruth.j1 k x13 (wrap64 ((wrap64 ((wrap64 (Int.tdiv (wrap64 (x3 + x4)) 10000)) * 10000)) + x5)) true x541000 x541001 x541002 x541003 x541004 x541005 x541006 x542000 x542001 x543000 x543001 x543002 (wrap64 (Int.tdiv (wrap64 (x3 + x4)) 10000)) bt544.1)))
def slotmeshlaw09_TimesyncTruth.j1 : Nat → Bool → Int → Bool → Bool → Int → Int → Int → Int → Int → Int → Int → Int → Int → Int → Int → Int → Int → Option (Bool)
  | 0, _, _, _, _, _, _, _, _, _, _, _, _, _, _, _, _, _ => none
  | k + 1, x13, x14, x121, x541000, x541001, x541002, x541003, x541004, x541005, x541006, x542000, x542001, x543000, x543001, x543002, x543003, x543004 => if x121 = true then (some x13) else ((timesync_Hear.f k x541000 x541001 x541002 x541003 x541004 x541005 x541006 x543000 x543001 x543002 x543003 x543004).bind fun bt550 => (if bt550.2.2.2.2.2.2.2 = 0 then (if x13 = true then ((slotmeshref09_Takes.f x541000 x541001 x541002 x541003 x541004 x541005 x541006 x543000 x543001 x543002 x543003 x543004).bind fun t559 => (if t559 = true then ((slotmeshlaw09_holds.f bt550.1 bt550.2.1 bt550.2.2.1 bt550.2.2.2.1 bt550.2.2.2.2.1 bt550.2.2.2.2.2.1 bt550.2.2.2.2.2.2.1 x542000 x542001 x14).bind fun t560 => (some t560)) else (if (bt550.1 == x541000 && ((bt550.2.1 == x541001 && (bt550.2.2.1 == x541002 && (bt550.2.2.2.1 == x541003))) && (bt550.2.2.2.2.1 == x541004 && (bt550.2.2.2.2.2.1 == x541005 && (bt550.2.2.2.2.2.2.1 == x541006))))) = true then (some true) else ((slotmeshlaw09_holds.f bt550.1 bt550.2.1 bt550.2.2.1 bt550.2.2.2.1 bt550.2.2.2.2.1 bt550.2.2.2.2.2.1 bt550.2.2.2.2.2.2.1 x542000 x542001 x14).bind fun t561 => (some t561))))) else (none)) else (if x13 = true then (if bt550.2.2.2.2.2.2.2 = 16 then (none) else (some (bt550.2.2.2.2.2.2.2 != 1))) else (none))))
end
def slotmeshlaw09_TimesyncTruth.f (k : Nat) (a0_0 : Bool) (a0_1 : Int) (a0_2 : Int) (a0_3 : Int) (a0_4 : Int) (a0_5 : Int) (a0_6 : Int) (a1_0 : Int) (a1_1 : Int) (a2_0 : Int) (a2_1 : Int) (a2_2 : Int) (a2_3 : Int) (a2_4 : Int) (a3 : Int) (a4 : Int) (a5 : Int) : Option (Bool) := (slotmeshlaw09_head.f k).bind fun t543 => (if a4 < 0 then (slotmeshlaw09_TimesyncTruth.j0 k a3 a4 a5 t543 true a0_0 a0_1 a0_2 a0_3 a0_4 a0_5 a0_6 a1_0 a1_1 a2_0 a2_1 a2_2 a2_3 0) else (if a4 > 10000000000 then (slotmeshlaw09_TimesyncTruth.j0 k a3 a4 a5 t543 true a0_0 a0_1 a0_2 a0_3 a0_4 a0_5 a0_6 a1_0 a1_1 a2_0 a2_1 a2_2 a2_3 0) else (if a5 < (wrap64 (-a2_2)) then (slotmeshlaw09_TimesyncTruth.j0 k a3 a4 a5 t543 true a0_0 a0_1 a0_2 a0_3 a0_4 a0_5 a0_6 a1_0 a1_1 a2_0 a2_1 a2_2 a2_3 0) else (if a5 > a2_2 then (slotmeshlaw09_TimesyncTruth.j0 k a3 a4 a5 t543 true a0_0 a0_1 a0_2 a0_3 a0_4 a0_5 a0_6 a1_0 a1_1 a2_0 a2_1 a2_2 a2_3 0) else (if a3 < 0 then (slotmeshlaw09_TimesyncTruth.j0 k a3 a4 a5 t543 true a0_0 a0_1 a0_2 a0_3 a0_4 a0_5 a0_6 a1_0 a1_1 a2_0 a2_1 a2_2 a2_3 0) else (if a3 > (wrap64 ((wrap64 (10000000000000 - a4)) - 20000)) then (slotmeshlaw09_TimesyncTruth.j0 k a3 a4 a5 t543 true a0_0 a0_1 a0_2 a0_3 a0_4 a0_5 a0_6 a1_0 a1_1 a2_0 a2_1 a2_2 a2_3 0) else (if a2_3 < 0 then (slotmeshlaw09_TimesyncTruth.j0 k a3 a4 a5 t543 true a0_0 a0_1 a0_2 a0_3 a0_4 a0_5 a0_6 a1_0 a1_1 a2_0 a2_1 a2_2 a2_3 0) else (if a2_3 > 1000000000 then (slotmeshlaw09_TimesyncTruth.j0 k a3 a4 a5 t543 true a0_0 a0_1 a0_2 a0_3 a0_4 a0_5 a0_6 a1_0 a1_1 a2_0 a2_1 a2_2 a2_3 0) else (if a2_2 < 0 then (slotmeshlaw09_TimesyncTruth.j0 k a3 a4 a5 t543 true a0_0 a0_1 a0_2 a0_3 a0_4 a0_5 a0_6 a1_0 a1_1 a2_0 a2_1 a2_2 a2_3 0) else (slotmeshlaw09_TimesyncTruth.j0 k a3 a4 a5 t543 (decide (a2_2 > 2000)) a0_0 a0_1 a0_2 a0_3 a0_4 a0_5 a0_6 a1_0 a1_1 a2_0 a2_1 a2_2 a2_3 0))))))))))
set_option maxHeartbeats 8000000 in
set_option maxRecDepth 100000 in
theorem slotmeshlaw09_TimesyncTruth.calls (k : Nat) (a0_0 : Bool) (a0_1 : Int) (a0_2 : Int) (a0_3 : Int) (a0_4 : Int) (a0_5 : Int) (a0_6 : Int) (a1_0 : Int) (a1_1 : Int) (a2_0 : Int) (a2_1 : Int) (a2_2 : Int) (a2_3 : Int) (a2_4 : Int) (a3 : Int) (a4 : Int) (a5 : Int) (r : Bool) (w : World) (h : slotmeshlaw09_TimesyncTruth.f k a0_0 a0_1 a0_2 a0_3 a0_4 a0_5 a0_6 a1_0 a1_1 a2_0 a2_1 a2_2 a2_3 a2_4 a3 a4 a5 = some r) :
    Calls Try.prog 9 #[.agg #[.bool a0_0, .int .i64 a0_1, .int .i64 a0_2, .int .i64 a0_3, .int .i64 a0_4, .int .i64 a0_5, .int .i64 a0_6], .agg #[.int .i64 a1_0, .int .i64 a1_1], .agg #[.int .i64 a2_0, .int .i64 a2_1, .int .i64 a2_2, .int .i64 a2_3, .int .i64 a2_4], .int .i64 a3, .int .i64 a4, .int .i64 a5] w fun e w' => e = .returned (.bool r) ∧ Below w.heap.size w w' := by
  have hu25 := Try.underlying25
  have hu47 := Try.underlying47
  have hu27 := Try.underlying27
  have HB := Aside0.mk (Below.refl w.heap.size w)
  have H : ((slotmeshlaw09_head.f k).bind fun t543 => (if a4 < 0 then (slotmeshlaw09_TimesyncTruth.j0 k a3 a4 a5 t543 true a0_0 a0_1 a0_2 a0_3 a0_4 a0_5 a0_6 a1_0 a1_1 a2_0 a2_1 a2_2 a2_3 0) else (if a4 > 10000000000 then (slotmeshlaw09_TimesyncTruth.j0 k a3 a4 a5 t543 true a0_0 a0_1 a0_2 a0_3 a0_4 a0_5 a0_6 a1_0 a1_1 a2_0 a2_1 a2_2 a2_3 0) else (if a5 < (wrap64 (-a2_2)) then (slotmeshlaw09_TimesyncTruth.j0 k a3 a4 a5 t543 true a0_0 a0_1 a0_2 a0_3 a0_4 a0_5 a0_6 a1_0 a1_1 a2_0 a2_1 a2_2 a2_3 0) else (if a5 > a2_2 then (slotmeshlaw09_TimesyncTruth.j0 k a3 a4 a5 t543 true a0_0 a0_1 a0_2 a0_3 a0_4 a0_5 a0_6 a1_0 a1_1 a2_0 a2_1 a2_2 a2_3 0) else (if a3 < 0 then (slotmeshlaw09_TimesyncTruth.j0 k a3 a4 a5 t543 true a0_0 a0_1 a0_2 a0_3 a0_4 a0_5 a0_6 a1_0 a1_1 a2_0 a2_1 a2_2 a2_3 0) else (if a3 > (wrap64 ((wrap64 (10000000000000 - a4)) - 20000)) then (slotmeshlaw09_TimesyncTruth.j0 k a3 a4 a5 t543 true a0_0 a0_1 a0_2 a0_3 a0_4 a0_5 a0_6 a1_0 a1_1 a2_0 a2_1 a2_2 a2_3 0) else (if a2_3 < 0 then (slotmeshlaw09_TimesyncTruth.j0 k a3 a4 a5 t543 true a0_0 a0_1 a0_2 a0_3 a0_4 a0_5 a0_6 a1_0 a1_1 a2_0 a2_1 a2_2 a2_3 0) else (if a2_3 > 1000000000 then (slotmeshlaw09_TimesyncTruth.j0 k a3 a4 a5 t543 true a0_0 a0_1 a0_2 a0_3 a0_4 a0_5 a0_6 a1_0 a1_1 a2_0 a2_1 a2_2 a2_3 0) else (if a2_2 < 0 then (slotmeshlaw09_TimesyncTruth.j0 k a3 a4 a5 t543 true a0_0 a0_1 a0_2 a0_3 a0_4 a0_5 a0_6 a1_0 a1_1 a2_0 a2_1 a2_2 a2_3 0) else (slotmeshlaw09_TimesyncTruth.j0 k a3 a4 a5 t543 (decide (a2_2 > 2000)) a0_0 a0_1 a0_2 a0_3 a0_4 a0_5 a0_6 a1_0 a1_1 a2_0 a2_1 a2_2 a2_3 0))))))))))) = some r := h
  clear h
  replace H := Option.bind_eq_some_iff.mp H
  obtain ⟨t543, A70, H⟩ := H
  replace H : (if a4 < 0 then (slotmeshlaw09_TimesyncTruth.j0 k a3 a4 a5 t543 true a0_0 a0_1 a0_2 a0_3 a0_4 a0_5 a0_6 a1_0 a1_1 a2_0 a2_1 a2_2 a2_3 0) else (if a4 > 10000000000 then (slotmeshlaw09_TimesyncTruth.j0 k a3 a4 a5 t543 true a0_0 a0_1 a0_2 a0_3 a0_4 a0_5 a0_6 a1_0 a1_1 a2_0 a2_1 a2_2 a2_3 0) else (if a5 < (wrap64 (-a2_2)) then (slotmeshlaw09_TimesyncTruth.j0 k a3 a4 a5 t543 true a0_0 a0_1 a0_2 a0_3 a0_4 a0_5 a0_6 a1_0 a1_1 a2_0 a2_1 a2_2 a2_3 0) else (if a5 > a2_2 then (slotmeshlaw09_TimesyncTruth.j0 k a3 a4 a5 t543 true a0_0 a0_1 a0_2 a0_3 a0_4 a0_5 a0_6 a1_0 a1_1 a2_0 a2_1 a2_2 a2_3 0) else (if a3 < 0 then (slotmeshlaw09_TimesyncTruth.j0 k a3 a4 a5 t543 true a0_0 a0_1 a0_2 a0_3 a0_4 a0_5 a0_6 a1_0 a1_1 a2_0 a2_1 a2_2 a2_3 0) else (if a3 > (wrap64 ((wrap64 (10000000000000 - a4)) - 20000)) then (slotmeshlaw09_TimesyncTruth.j0 k a3 a4 a5 t543 true a0_0 a0_1 a0_2 a0_3 a0_4 a0_5 a0_6 a1_0 a1_1 a2_0 a2_1 a2_2 a2_3 0) else (if a2_3 < 0 then (slotmeshlaw09_TimesyncTruth.j0 k a3 a4 a5 t543 true a0_0 a0_1 a0_2 a0_3 a0_4 a0_5 a0_6 a1_0 a1_1 a2_0 a2_1 a2_2 a2_3 0) else (if a2_3 > 1000000000 then (slotmeshlaw09_TimesyncTruth.j0 k a3 a4 a5 t543 true a0_0 a0_1 a0_2 a0_3 a0_4 a0_5 a0_6 a1_0 a1_1 a2_0 a2_1 a2_2 a2_3 0) else (if a2_2 < 0 then (slotmeshlaw09_TimesyncTruth.j0 k a3 a4 a5 t543 true a0_0 a0_1 a0_2 a0_3 a0_4 a0_5 a0_6 a1_0 a1_1 a2_0 a2_1 a2_2 a2_3 0) else (slotmeshlaw09_TimesyncTruth.j0 k a3 a4 a5 t543 (decide (a2_2 > 2000)) a0_0 a0_1 a0_2 a0_3 a0_4 a0_5 a0_6 a1_0 a1_1 a2_0 a2_1 a2_2 a2_3 0)))))))))) = some r := H
  have A7 := Aside0.mk A70
  clear A70
  have HC8 := Aside0.mk H
  clear H
  go_enter Try.func9, Try.ntmps9
  go_upto_region 3 with (first | ((with_reducible refine gate_dst (N := 6) rfl ?_); refine box_event ?hg (N := 6) ?hd (cs := #[.bool a0_0, .int .i64 a0_1, .int .i64 a0_2, .int .i64 a0_3, .int .i64 a0_4, .int .i64 a0_5, .int .i64 a0_6]) (t := 25) ?hr ?_; (case hd => rfl); (case hg => rfl); (case hr => first | (go_simp; done) | (go_simp; rfl)); intro gb540 hg w9 hbox hb; have n0_ := Aside0.mk (below_step (by repeat (first | (with_reducible first | exact HB.out | apply below_alloc | apply pw_below_drewN | apply below_drew1) | exact HB.out)) hb); have n1_ := Aside0.mk (hbox); have n2_ := Aside0.mk ((by rw [hg]; exact (below_size (by repeat (first | (with_reducible first | exact HB.out | apply below_alloc | apply pw_below_drewN | apply below_drew1) | exact HB.out))) : w.heap.size ≤ gb540)); have n3_ := Aside0.mk ((by rw [hg]; exact (below_size (by repeat (first | (with_reducible first | exact HB.out | apply below_alloc | apply pw_below_drewN | apply below_drew1) | exact HB.out))) : w.heap.size ≤ gb540)); clear HB; have HB := n0_; have BK540 := n1_; have GW540 := n2_; have GE540 := n3_; clear n0_ n1_ n2_ n3_; clear hb hbox hg) | ((with_reducible refine gate_dst (N := 7) rfl ?_); refine box_event ?hg (N := 7) ?hd (cs := #[.int .i64 a1_0, .int .i64 a1_1]) (t := 47) ?hr ?_; (case hd => rfl); (case hg => rfl); (case hr => first | (go_simp; done) | (go_simp; rfl)); intro gb541 hg w10 hbox hb; have n0_ := Aside0.mk (blk_below (g := gb540) (o := .cells #[.bool a0_0, .int .i64 a0_1, .int .i64 a0_2, .int .i64 a0_3, .int .i64 a0_4, .int .i64 a0_5, .int .i64 a0_6] 25 (0, 0)) (by (with_reducible repeat (first | refine blk_drewN ?_ _ | refine blk_drew ?_ | refine blk_alloc ?_ _)); exact BK540.out) hb); have n1_ := Aside0.mk (below_step (by repeat (first | (with_reducible first | exact HB.out | apply below_alloc | apply pw_below_drewN | apply below_drew1 | refine below_set ?_ GE540.out) | exact HB.out)) hb); have n2_ := Aside0.mk (hbox); have n3_ := Aside0.mk ((by rw [hg]; exact (below_size (by repeat (first | (with_reducible first | exact HB.out | apply below_alloc | apply pw_below_drewN | apply below_drew1 | refine below_set ?_ GE540.out) | exact HB.out))) : w.heap.size ≤ gb541)); have n4_ := Aside0.mk ((by rw [hg]; exact (below_size (by repeat (first | (with_reducible first | exact HB.out | apply below_alloc | apply pw_below_drewN | apply below_drew1 | refine below_set ?_ GE540.out) | exact HB.out))) : w.heap.size ≤ gb541)); have n5_ := Aside0.mk ((by rw [hg]; exact Nat.ne_of_lt (blk_lt (g := gb540) (o := .cells #[.bool a0_0, .int .i64 a0_1, .int .i64 a0_2, .int .i64 a0_3, .int .i64 a0_4, .int .i64 a0_5, .int .i64 a0_6] 25 (0, 0)) (by (with_reducible repeat (first | refine blk_drewN ?_ _ | refine blk_drew ?_ | refine blk_alloc ?_ _)); exact BK540.out)) : gb540 ≠ gb541)); have n6_ := Aside0.mk ((by rw [hg]; exact Nat.ne_of_gt (blk_lt (g := gb540) (o := .cells #[.bool a0_0, .int .i64 a0_1, .int .i64 a0_2, .int .i64 a0_3, .int .i64 a0_4, .int .i64 a0_5, .int .i64 a0_6] 25 (0, 0)) (by (with_reducible repeat (first | refine blk_drewN ?_ _ | refine blk_drew ?_ | refine blk_alloc ?_ _)); exact BK540.out)) : gb541 ≠ gb540)); clear BK540; clear HB; have BK540 := n0_; have HB := n1_; have BK541 := n2_; have GW541 := n3_; have GE541 := n4_; have NB540_541 := n5_; have NB541_540 := n6_; clear n0_ n1_ n2_ n3_ n4_ n5_ n6_; clear hb hbox hg) | ((with_reducible refine gate_dst (N := 8) rfl ?_); refine box_event ?hg (N := 8) ?hd (cs := #[.int .i64 a2_0, .int .i64 a2_1, .int .i64 a2_2, .int .i64 a2_3, .int .i64 a2_4]) (t := 27) ?hr ?_; (case hd => rfl); (case hg => rfl); (case hr => first | (go_simp; done) | (go_simp; rfl)); intro gb542 hg w11 hbox hb; have n0_ := Aside0.mk (blk_below (g := gb540) (o := .cells #[.bool a0_0, .int .i64 a0_1, .int .i64 a0_2, .int .i64 a0_3, .int .i64 a0_4, .int .i64 a0_5, .int .i64 a0_6] 25 (0, 0)) (by (with_reducible repeat (first | refine blk_drewN ?_ _ | refine blk_drew ?_ | refine blk_alloc ?_ _)); exact BK540.out) hb); have n1_ := Aside0.mk (blk_below (g := gb541) (o := .cells #[.int .i64 a1_0, .int .i64 a1_1] 47 (0, 0)) (by (with_reducible repeat (first | refine blk_drewN ?_ _ | refine blk_drew ?_ | refine blk_alloc ?_ _)); exact BK541.out) hb); have n2_ := Aside0.mk (below_step (by repeat (first | (with_reducible first | exact HB.out | apply below_alloc | apply pw_below_drewN | apply below_drew1 | refine below_set ?_ GE540.out | refine below_set ?_ GE541.out) | exact HB.out)) hb); have n3_ := Aside0.mk (hbox); have n4_ := Aside0.mk ((by rw [hg]; exact (below_size (by repeat (first | (with_reducible first | exact HB.out | apply below_alloc | apply pw_below_drewN | apply below_drew1 | refine below_set ?_ GE540.out | refine below_set ?_ GE541.out) | exact HB.out))) : w.heap.size ≤ gb542)); have n5_ := Aside0.mk ((by rw [hg]; exact (below_size (by repeat (first | (with_reducible first | exact HB.out | apply below_alloc | apply pw_below_drewN | apply below_drew1 | refine below_set ?_ GE540.out | refine below_set ?_ GE541.out) | exact HB.out))) : w.heap.size ≤ gb542)); have n6_ := Aside0.mk ((by rw [hg]; exact Nat.ne_of_lt (blk_lt (g := gb540) (o := .cells #[.bool a0_0, .int .i64 a0_1, .int .i64 a0_2, .int .i64 a0_3, .int .i64 a0_4, .int .i64 a0_5, .int .i64 a0_6] 25 (0, 0)) (by (with_reducible repeat (first | refine blk_drewN ?_ _ | refine blk_drew ?_ | refine blk_alloc ?_ _)); exact BK540.out)) : gb540 ≠ gb542)); have n7_ := Aside0.mk ((by rw [hg]; exact Nat.ne_of_gt (blk_lt (g := gb540) (o := .cells #[.bool a0_0, .int .i64 a0_1, .int .i64 a0_2, .int .i64 a0_3, .int .i64 a0_4, .int .i64 a0_5, .int .i64 a0_6] 25 (0, 0)) (by (with_reducible repeat (first | refine blk_drewN ?_ _ | refine blk_drew ?_ | refine blk_alloc ?_ _)); exact BK540.out)) : gb542 ≠ gb540)); have n8_ := Aside0.mk ((by rw [hg]; exact Nat.ne_of_lt (blk_lt (g := gb541) (o := .cells #[.int .i64 a1_0, .int .i64 a1_1] 47 (0, 0)) (by (with_reducible repeat (first | refine blk_drewN ?_ _ | refine blk_drew ?_ | refine blk_alloc ?_ _)); exact BK541.out)) : gb541 ≠ gb542)); have n9_ := Aside0.mk ((by rw [hg]; exact Nat.ne_of_gt (blk_lt (g := gb541) (o := .cells #[.int .i64 a1_0, .int .i64 a1_1] 47 (0, 0)) (by (with_reducible repeat (first | refine blk_drewN ?_ _ | refine blk_drew ?_ | refine blk_alloc ?_ _)); exact BK541.out)) : gb542 ≠ gb541)); clear BK540; clear BK541; clear HB; have BK540 := n0_; have BK541 := n1_; have HB := n2_; have BK542 := n3_; have GW542 := n4_; have GE542 := n5_; have NB540_542 := n6_; have NB542_540 := n7_; have NB541_542 := n8_; have NB542_541 := n9_; clear n0_ n1_ n2_ n3_ n4_ n5_ n6_ n7_ n8_ n9_; clear hb hbox hg) | ((with_reducible refine gate_callee (f := 11) rfl ?_); refine goesL_ (some 19) rfl rfl Try.func11 (by kernel_rfl) rfl #[] rfl (by (try simp only [List.map_toArray, List.map_cons, List.map_nil]); first | done | rfl | (simp only [List.length_drop, List.length_take]; rfl)) ?_; (with_reducible refine (slotmeshlaw09_head.calls k  t543 _ A7.out).mono ?_); rintro e w12 ⟨rfl, hb⟩; refine ⟨_, rfl, ?_⟩; have n0_ := Aside0.mk (blk_below (g := gb540) (o := .cells #[.bool a0_0, .int .i64 a0_1, .int .i64 a0_2, .int .i64 a0_3, .int .i64 a0_4, .int .i64 a0_5, .int .i64 a0_6] 25 (0, 0)) (by (with_reducible repeat (first | refine blk_drewN ?_ _ | refine blk_drew ?_ | refine blk_alloc ?_ _)); exact BK540.out) hb); have n1_ := Aside0.mk (blk_below (g := gb541) (o := .cells #[.int .i64 a1_0, .int .i64 a1_1] 47 (0, 0)) (by (with_reducible repeat (first | refine blk_drewN ?_ _ | refine blk_drew ?_ | refine blk_alloc ?_ _)); exact BK541.out) hb); have n2_ := Aside0.mk (blk_below (g := gb542) (o := .cells #[.int .i64 a2_0, .int .i64 a2_1, .int .i64 a2_2, .int .i64 a2_3, .int .i64 a2_4] 27 (0, 0)) (by (with_reducible repeat (first | refine blk_drewN ?_ _ | refine blk_drew ?_ | refine blk_alloc ?_ _)); exact BK542.out) hb); have n3_ := Aside0.mk (below_step (by repeat (first | (with_reducible first | exact HB.out | apply below_alloc | apply pw_below_drewN | apply below_drew1 | refine below_set ?_ GE540.out | refine below_set ?_ GE541.out | refine below_set ?_ GE542.out) | exact HB.out)) hb); clear BK540; clear BK541; clear BK542; clear HB; have BK540 := n0_; have BK541 := n1_; have BK542 := n2_; have HB := n3_; clear n0_ n1_ n2_ n3_; (try clear hb); (try clear hb2); (try clear hk); (try clear hi); have hnb13 := NB542_540.out; have hnc13 := NB540_542.out; have hnb14 := NB542_541.out; have hnc14 := NB541_542.out; have hcz15_0 : w12.cell? ⟨gb542, 0, none⟩ = some (.int .i64 a2_0) := (blk_cell BK542.out 0).trans rfl; have hcz15_1 : w12.cell? ⟨gb542, 1, none⟩ = some (.int .i64 a2_1) := (blk_cell BK542.out 1).trans rfl; have hcz15_2 : w12.cell? ⟨gb542, 2, none⟩ = some (.int .i64 a2_2) := (blk_cell BK542.out 2).trans rfl; have hcz15_3 : w12.cell? ⟨gb542, 3, none⟩ = some (.int .i64 a2_3) := (blk_cell BK542.out 3).trans rfl; have hcz15_4 : w12.cell? ⟨gb542, 4, none⟩ = some (.int .i64 a2_4) := (blk_cell BK542.out 4).trans rfl; have hfz15_0 := blk_frozen BK542.out 0; have hfz15_1 := blk_frozen BK542.out 1; have hfz15_2 := blk_frozen BK542.out 2; have hfz15_3 := blk_frozen BK542.out 3; have hfz15_4 := blk_frozen BK542.out 4))
  (try simp only [Act.put, List.setIfInBounds_toArray, List.set_cons_zero, List.set_cons_succ])
  go_cut [70] (fun v70 wc => ∃ (kq : Nat) (x70_7 : Bool), v70 = .bool x70_7 ∧ Aside0 (slotmeshlaw09_TimesyncTruth.j0 kq a3 a4 a5 t543 x70_7 a0_0 a0_1 a0_2 a0_3 a0_4 a0_5 a0_6 a1_0 a1_1 a2_0 a2_1 a2_2 a2_3 0 = some r) ∧ Aside0 (kq ≤ k) ∧ Aside0 (wc.heap[gb540]? = some (.cells #[.bool a0_0, .int .i64 a0_1, .int .i64 a0_2, .int .i64 a0_3, .int .i64 a0_4, .int .i64 a0_5, .int .i64 a0_6] 25 (0, 0))) ∧ Aside0 (wc.heap[gb541]? = some (.cells #[.int .i64 a1_0, .int .i64 a1_1] 47 (0, 0))) ∧ Aside0 (wc.heap[gb542]? = some (.cells #[.int .i64 a2_0, .int .i64 a2_1, .int .i64 a2_2, .int .i64 a2_3, .int .i64 0] 27 (0, 0))) ∧ Aside0 (Below w.heap.size w wc))
  case first =>
    have H := HC8.out
    clear HC8
    by_cases c16 : a4 < 0
    · rw [if_pos c16] at H
      have c16b0 : decide (a4 < 0) = true := decide_eq_true c16
      clear c16
      (first | rw [c16b0] | (simp only [i64_w, i32_w]; rw [c16b0]) | skip)
      have H' := Aside0.mk H
      clear H
      go_wp2
      go_meet
      case rel => exact ⟨_, (true), (by first | rfl | (simp; done) | (simp [*]; done)), H', ⟨by first | omega | exact Nat.le_refl _⟩, ⟨by (with_reducible repeat (first | refine blk_drewN ?_ _ | refine blk_drew ?_ | refine blk_alloc ?_ _)); refine blk_far ?_ NB540_542.out _; (with_reducible repeat (first | refine blk_drewN ?_ _ | refine blk_drew ?_ | refine blk_alloc ?_ _)); exact BK540.out⟩, ⟨by (with_reducible repeat (first | refine blk_drewN ?_ _ | refine blk_drew ?_ | refine blk_alloc ?_ _)); refine blk_far ?_ NB541_542.out _; (with_reducible repeat (first | refine blk_drewN ?_ _ | refine blk_drew ?_ | refine blk_alloc ?_ _)); exact BK541.out⟩, ⟨by (with_reducible repeat (first | refine blk_drewN ?_ _ | refine blk_drew ?_ | refine blk_alloc ?_ _)); refine blk_put (cs := #[.int .i64 a2_0, .int .i64 a2_1, .int .i64 a2_2, .int .i64 a2_3, .int .i64 a2_4]) ?_ 4 _ rfl; (with_reducible repeat (first | refine blk_drewN ?_ _ | refine blk_drew ?_ | refine blk_alloc ?_ _)); exact BK542.out⟩, ⟨by repeat (first | (with_reducible first | exact HB.out | apply below_alloc | apply pw_below_drewN | apply below_drew1 | refine below_set ?_ GE540.out | refine below_set ?_ GE541.out | refine below_set ?_ GE542.out) | exact HB.out)⟩⟩
    · rw [if_neg c16] at H
      have c16b0 : decide (a4 < 0) = false := decide_eq_false c16
      clear c16
      (first | rw [c16b0] | (simp only [i64_w, i32_w]; rw [c16b0]) | skip)
      by_cases c17 : a4 > 10000000000
      · rw [if_pos c17] at H
        have c17b0 : decide (10000000000 < a4) = true := decide_eq_true c17
        clear c17
        have H' := Aside0.mk H
        clear H
        go_wp2
        go_meet
        case rel => exact ⟨_, (true), (by first | rfl | (simp; done) | (simp [*]; done)), H', ⟨by first | omega | exact Nat.le_refl _⟩, ⟨by (with_reducible repeat (first | refine blk_drewN ?_ _ | refine blk_drew ?_ | refine blk_alloc ?_ _)); refine blk_far ?_ NB540_542.out _; (with_reducible repeat (first | refine blk_drewN ?_ _ | refine blk_drew ?_ | refine blk_alloc ?_ _)); exact BK540.out⟩, ⟨by (with_reducible repeat (first | refine blk_drewN ?_ _ | refine blk_drew ?_ | refine blk_alloc ?_ _)); refine blk_far ?_ NB541_542.out _; (with_reducible repeat (first | refine blk_drewN ?_ _ | refine blk_drew ?_ | refine blk_alloc ?_ _)); exact BK541.out⟩, ⟨by (with_reducible repeat (first | refine blk_drewN ?_ _ | refine blk_drew ?_ | refine blk_alloc ?_ _)); refine blk_put (cs := #[.int .i64 a2_0, .int .i64 a2_1, .int .i64 a2_2, .int .i64 a2_3, .int .i64 a2_4]) ?_ 4 _ rfl; (with_reducible repeat (first | refine blk_drewN ?_ _ | refine blk_drew ?_ | refine blk_alloc ?_ _)); exact BK542.out⟩, ⟨by repeat (first | (with_reducible first | exact HB.out | apply below_alloc | apply pw_below_drewN | apply below_drew1 | refine below_set ?_ GE540.out | refine below_set ?_ GE541.out | refine below_set ?_ GE542.out) | exact HB.out)⟩⟩
      · rw [if_neg c17] at H
        have c17b0 : decide (10000000000 < a4) = false := decide_eq_false c17
        clear c17
        by_cases c18 : a5 < (wrap64 (-a2_2))
        · rw [if_pos c18] at H
          have c18b0 : decide (a5 < (wrap64 (-a2_2))) = true := decide_eq_true c18
          clear c18
          have H' := Aside0.mk H
          clear H
          have hnb19 := NB542_540.out
          have hnc19 := NB540_542.out
          have hnb20 := NB542_541.out
          have hnc20 := NB541_542.out
          have hcz21_0 : w12.cell? ⟨gb542, 0, none⟩ = some (.int .i64 a2_0) := (blk_cell BK542.out 0).trans rfl
          have hcz21_1 : w12.cell? ⟨gb542, 1, none⟩ = some (.int .i64 a2_1) := (blk_cell BK542.out 1).trans rfl
          have hcz21_2 : w12.cell? ⟨gb542, 2, none⟩ = some (.int .i64 a2_2) := (blk_cell BK542.out 2).trans rfl
          have hcz21_3 : w12.cell? ⟨gb542, 3, none⟩ = some (.int .i64 a2_3) := (blk_cell BK542.out 3).trans rfl
          have hcz21_4 : w12.cell? ⟨gb542, 4, none⟩ = some (.int .i64 a2_4) := (blk_cell BK542.out 4).trans rfl
          have hfz21_0 := blk_frozen BK542.out 0
          have hfz21_1 := blk_frozen BK542.out 1
          have hfz21_2 := blk_frozen BK542.out 2
          have hfz21_3 := blk_frozen BK542.out 3
          have hfz21_4 := blk_frozen BK542.out 4
          go_wp2
          go_meet
          case rel => exact ⟨_, (true), (by first | rfl | (simp; done) | (simp [*]; done)), H', ⟨by first | omega | exact Nat.le_refl _⟩, ⟨by (with_reducible repeat (first | refine blk_drewN ?_ _ | refine blk_drew ?_ | refine blk_alloc ?_ _)); refine blk_far ?_ NB540_542.out _; (with_reducible repeat (first | refine blk_drewN ?_ _ | refine blk_drew ?_ | refine blk_alloc ?_ _)); exact BK540.out⟩, ⟨by (with_reducible repeat (first | refine blk_drewN ?_ _ | refine blk_drew ?_ | refine blk_alloc ?_ _)); refine blk_far ?_ NB541_542.out _; (with_reducible repeat (first | refine blk_drewN ?_ _ | refine blk_drew ?_ | refine blk_alloc ?_ _)); exact BK541.out⟩, ⟨by (with_reducible repeat (first | refine blk_drewN ?_ _ | refine blk_drew ?_ | refine blk_alloc ?_ _)); refine blk_put (cs := #[.int .i64 a2_0, .int .i64 a2_1, .int .i64 a2_2, .int .i64 a2_3, .int .i64 a2_4]) ?_ 4 _ rfl; (with_reducible repeat (first | refine blk_drewN ?_ _ | refine blk_drew ?_ | refine blk_alloc ?_ _)); exact BK542.out⟩, ⟨by repeat (first | (with_reducible first | exact HB.out | apply below_alloc | apply pw_below_drewN | apply below_drew1 | refine below_set ?_ GE540.out | refine below_set ?_ GE541.out | refine below_set ?_ GE542.out) | exact HB.out)⟩⟩
        · rw [if_neg c18] at H
          have c18b0 : decide (a5 < (wrap64 (-a2_2))) = false := decide_eq_false c18
          clear c18
          by_cases c22 : a5 > a2_2
          · rw [if_pos c22] at H
            have c22b0 : decide (a2_2 < a5) = true := decide_eq_true c22
            clear c22
            have H' := Aside0.mk H
            clear H
            have hnb23 := NB542_540.out
            have hnc23 := NB540_542.out
            have hnb24 := NB542_541.out
            have hnc24 := NB541_542.out
            have hcz25_0 : w12.cell? ⟨gb542, 0, none⟩ = some (.int .i64 a2_0) := (blk_cell BK542.out 0).trans rfl
            have hcz25_1 : w12.cell? ⟨gb542, 1, none⟩ = some (.int .i64 a2_1) := (blk_cell BK542.out 1).trans rfl
            have hcz25_2 : w12.cell? ⟨gb542, 2, none⟩ = some (.int .i64 a2_2) := (blk_cell BK542.out 2).trans rfl
            have hcz25_3 : w12.cell? ⟨gb542, 3, none⟩ = some (.int .i64 a2_3) := (blk_cell BK542.out 3).trans rfl
            have hcz25_4 : w12.cell? ⟨gb542, 4, none⟩ = some (.int .i64 a2_4) := (blk_cell BK542.out 4).trans rfl
            have hfz25_0 := blk_frozen BK542.out 0
            have hfz25_1 := blk_frozen BK542.out 1
            have hfz25_2 := blk_frozen BK542.out 2
            have hfz25_3 := blk_frozen BK542.out 3
            have hfz25_4 := blk_frozen BK542.out 4
            go_wp2
            go_meet
            case rel => exact ⟨_, (true), (by first | rfl | (simp; done) | (simp [*]; done)), H', ⟨by first | omega | exact Nat.le_refl _⟩, ⟨by (with_reducible repeat (first | refine blk_drewN ?_ _ | refine blk_drew ?_ | refine blk_alloc ?_ _)); refine blk_far ?_ NB540_542.out _; (with_reducible repeat (first | refine blk_drewN ?_ _ | refine blk_drew ?_ | refine blk_alloc ?_ _)); exact BK540.out⟩, ⟨by (with_reducible repeat (first | refine blk_drewN ?_ _ | refine blk_drew ?_ | refine blk_alloc ?_ _)); refine blk_far ?_ NB541_542.out _; (with_reducible repeat (first | refine blk_drewN ?_ _ | refine blk_drew ?_ | refine blk_alloc ?_ _)); exact BK541.out⟩, ⟨by (with_reducible repeat (first | refine blk_drewN ?_ _ | refine blk_drew ?_ | refine blk_alloc ?_ _)); refine blk_put (cs := #[.int .i64 a2_0, .int .i64 a2_1, .int .i64 a2_2, .int .i64 a2_3, .int .i64 a2_4]) ?_ 4 _ rfl; (with_reducible repeat (first | refine blk_drewN ?_ _ | refine blk_drew ?_ | refine blk_alloc ?_ _)); exact BK542.out⟩, ⟨by repeat (first | (with_reducible first | exact HB.out | apply below_alloc | apply pw_below_drewN | apply below_drew1 | refine below_set ?_ GE540.out | refine below_set ?_ GE541.out | refine below_set ?_ GE542.out) | exact HB.out)⟩⟩
          · rw [if_neg c22] at H
            have c22b0 : decide (a2_2 < a5) = false := decide_eq_false c22
            clear c22
            by_cases c26 : a3 < 0
            · rw [if_pos c26] at H
              have c26b0 : decide (a3 < 0) = true := decide_eq_true c26
              clear c26
              have H' := Aside0.mk H
              clear H
              have hnb27 := NB542_540.out
              have hnc27 := NB540_542.out
              have hnb28 := NB542_541.out
              have hnc28 := NB541_542.out
              have hcz29_0 : w12.cell? ⟨gb542, 0, none⟩ = some (.int .i64 a2_0) := (blk_cell BK542.out 0).trans rfl
              have hcz29_1 : w12.cell? ⟨gb542, 1, none⟩ = some (.int .i64 a2_1) := (blk_cell BK542.out 1).trans rfl
              have hcz29_2 : w12.cell? ⟨gb542, 2, none⟩ = some (.int .i64 a2_2) := (blk_cell BK542.out 2).trans rfl
              have hcz29_3 : w12.cell? ⟨gb542, 3, none⟩ = some (.int .i64 a2_3) := (blk_cell BK542.out 3).trans rfl
              have hcz29_4 : w12.cell? ⟨gb542, 4, none⟩ = some (.int .i64 a2_4) := (blk_cell BK542.out 4).trans rfl
              have hfz29_0 := blk_frozen BK542.out 0
              have hfz29_1 := blk_frozen BK542.out 1
              have hfz29_2 := blk_frozen BK542.out 2
              have hfz29_3 := blk_frozen BK542.out 3
              have hfz29_4 := blk_frozen BK542.out 4
              go_wp2
              go_meet
              case rel => exact ⟨_, (true), (by first | rfl | (simp; done) | (simp [*]; done)), H', ⟨by first | omega | exact Nat.le_refl _⟩, ⟨by (with_reducible repeat (first | refine blk_drewN ?_ _ | refine blk_drew ?_ | refine blk_alloc ?_ _)); refine blk_far ?_ NB540_542.out _; (with_reducible repeat (first | refine blk_drewN ?_ _ | refine blk_drew ?_ | refine blk_alloc ?_ _)); exact BK540.out⟩, ⟨by (with_reducible repeat (first | refine blk_drewN ?_ _ | refine blk_drew ?_ | refine blk_alloc ?_ _)); refine blk_far ?_ NB541_542.out _; (with_reducible repeat (first | refine blk_drewN ?_ _ | refine blk_drew ?_ | refine blk_alloc ?_ _)); exact BK541.out⟩, ⟨by (with_reducible repeat (first | refine blk_drewN ?_ _ | refine blk_drew ?_ | refine blk_alloc ?_ _)); refine blk_put (cs := #[.int .i64 a2_0, .int .i64 a2_1, .int .i64 a2_2, .int .i64 a2_3, .int .i64 a2_4]) ?_ 4 _ rfl; (with_reducible repeat (first | refine blk_drewN ?_ _ | refine blk_drew ?_ | refine blk_alloc ?_ _)); exact BK542.out⟩, ⟨by repeat (first | (with_reducible first | exact HB.out | apply below_alloc | apply pw_below_drewN | apply below_drew1 | refine below_set ?_ GE540.out | refine below_set ?_ GE541.out | refine below_set ?_ GE542.out) | exact HB.out)⟩⟩
            · rw [if_neg c26] at H
              have c26b0 : decide (a3 < 0) = false := decide_eq_false c26
              clear c26
              by_cases c30 : a3 > (wrap64 ((wrap64 (10000000000000 - a4)) - 20000))
              · rw [if_pos c30] at H
                have c30b0 : decide ((wrap64 ((wrap64 (10000000000000 - a4)) - 20000)) < a3) = true := decide_eq_true c30
                clear c30
                have H' := Aside0.mk H
                clear H
                have hnb31 := NB542_540.out
                have hnc31 := NB540_542.out
                have hnb32 := NB542_541.out
                have hnc32 := NB541_542.out
                have hcz33_0 : w12.cell? ⟨gb542, 0, none⟩ = some (.int .i64 a2_0) := (blk_cell BK542.out 0).trans rfl
                have hcz33_1 : w12.cell? ⟨gb542, 1, none⟩ = some (.int .i64 a2_1) := (blk_cell BK542.out 1).trans rfl
                have hcz33_2 : w12.cell? ⟨gb542, 2, none⟩ = some (.int .i64 a2_2) := (blk_cell BK542.out 2).trans rfl
                have hcz33_3 : w12.cell? ⟨gb542, 3, none⟩ = some (.int .i64 a2_3) := (blk_cell BK542.out 3).trans rfl
                have hcz33_4 : w12.cell? ⟨gb542, 4, none⟩ = some (.int .i64 a2_4) := (blk_cell BK542.out 4).trans rfl
                have hfz33_0 := blk_frozen BK542.out 0
                have hfz33_1 := blk_frozen BK542.out 1
                have hfz33_2 := blk_frozen BK542.out 2
                have hfz33_3 := blk_frozen BK542.out 3
                have hfz33_4 := blk_frozen BK542.out 4
                go_wp2
                go_meet
                case rel => exact ⟨_, (true), (by first | rfl | (simp; done) | (simp [*]; done)), H', ⟨by first | omega | exact Nat.le_refl _⟩, ⟨by (with_reducible repeat (first | refine blk_drewN ?_ _ | refine blk_drew ?_ | refine blk_alloc ?_ _)); refine blk_far ?_ NB540_542.out _; (with_reducible repeat (first | refine blk_drewN ?_ _ | refine blk_drew ?_ | refine blk_alloc ?_ _)); exact BK540.out⟩, ⟨by (with_reducible repeat (first | refine blk_drewN ?_ _ | refine blk_drew ?_ | refine blk_alloc ?_ _)); refine blk_far ?_ NB541_542.out _; (with_reducible repeat (first | refine blk_drewN ?_ _ | refine blk_drew ?_ | refine blk_alloc ?_ _)); exact BK541.out⟩, ⟨by (with_reducible repeat (first | refine blk_drewN ?_ _ | refine blk_drew ?_ | refine blk_alloc ?_ _)); refine blk_put (cs := #[.int .i64 a2_0, .int .i64 a2_1, .int .i64 a2_2, .int .i64 a2_3, .int .i64 a2_4]) ?_ 4 _ rfl; (with_reducible repeat (first | refine blk_drewN ?_ _ | refine blk_drew ?_ | refine blk_alloc ?_ _)); exact BK542.out⟩, ⟨by repeat (first | (with_reducible first | exact HB.out | apply below_alloc | apply pw_below_drewN | apply below_drew1 | refine below_set ?_ GE540.out | refine below_set ?_ GE541.out | refine below_set ?_ GE542.out) | exact HB.out)⟩⟩
              · rw [if_neg c30] at H
                have c30b0 : decide ((wrap64 ((wrap64 (10000000000000 - a4)) - 20000)) < a3) = false := decide_eq_false c30
                clear c30
                by_cases c34 : a2_3 < 0
                · rw [if_pos c34] at H
                  have c34b0 : decide (a2_3 < 0) = true := decide_eq_true c34
                  clear c34
                  have H' := Aside0.mk H
                  clear H
                  have hnb35 := NB542_540.out
                  have hnc35 := NB540_542.out
                  have hnb36 := NB542_541.out
                  have hnc36 := NB541_542.out
                  have hcz37_0 : w12.cell? ⟨gb542, 0, none⟩ = some (.int .i64 a2_0) := (blk_cell BK542.out 0).trans rfl
                  have hcz37_1 : w12.cell? ⟨gb542, 1, none⟩ = some (.int .i64 a2_1) := (blk_cell BK542.out 1).trans rfl
                  have hcz37_2 : w12.cell? ⟨gb542, 2, none⟩ = some (.int .i64 a2_2) := (blk_cell BK542.out 2).trans rfl
                  have hcz37_3 : w12.cell? ⟨gb542, 3, none⟩ = some (.int .i64 a2_3) := (blk_cell BK542.out 3).trans rfl
                  have hcz37_4 : w12.cell? ⟨gb542, 4, none⟩ = some (.int .i64 a2_4) := (blk_cell BK542.out 4).trans rfl
                  have hfz37_0 := blk_frozen BK542.out 0
                  have hfz37_1 := blk_frozen BK542.out 1
                  have hfz37_2 := blk_frozen BK542.out 2
                  have hfz37_3 := blk_frozen BK542.out 3
                  have hfz37_4 := blk_frozen BK542.out 4
                  go_wp2
                  go_meet
                  case rel => exact ⟨_, (true), (by first | rfl | (simp; done) | (simp [*]; done)), H', ⟨by first | omega | exact Nat.le_refl _⟩, ⟨by (with_reducible repeat (first | refine blk_drewN ?_ _ | refine blk_drew ?_ | refine blk_alloc ?_ _)); refine blk_far ?_ NB540_542.out _; (with_reducible repeat (first | refine blk_drewN ?_ _ | refine blk_drew ?_ | refine blk_alloc ?_ _)); exact BK540.out⟩, ⟨by (with_reducible repeat (first | refine blk_drewN ?_ _ | refine blk_drew ?_ | refine blk_alloc ?_ _)); refine blk_far ?_ NB541_542.out _; (with_reducible repeat (first | refine blk_drewN ?_ _ | refine blk_drew ?_ | refine blk_alloc ?_ _)); exact BK541.out⟩, ⟨by (with_reducible repeat (first | refine blk_drewN ?_ _ | refine blk_drew ?_ | refine blk_alloc ?_ _)); refine blk_put (cs := #[.int .i64 a2_0, .int .i64 a2_1, .int .i64 a2_2, .int .i64 a2_3, .int .i64 a2_4]) ?_ 4 _ rfl; (with_reducible repeat (first | refine blk_drewN ?_ _ | refine blk_drew ?_ | refine blk_alloc ?_ _)); exact BK542.out⟩, ⟨by repeat (first | (with_reducible first | exact HB.out | apply below_alloc | apply pw_below_drewN | apply below_drew1 | refine below_set ?_ GE540.out | refine below_set ?_ GE541.out | refine below_set ?_ GE542.out) | exact HB.out)⟩⟩
                · rw [if_neg c34] at H
                  have c34b0 : decide (a2_3 < 0) = false := decide_eq_false c34
                  clear c34
                  by_cases c38 : a2_3 > 1000000000
                  · rw [if_pos c38] at H
                    have c38b0 : decide (1000000000 < a2_3) = true := decide_eq_true c38
                    clear c38
                    have H' := Aside0.mk H
                    clear H
                    have hnb39 := NB542_540.out
                    have hnc39 := NB540_542.out
                    have hnb40 := NB542_541.out
                    have hnc40 := NB541_542.out
                    have hcz41_0 : w12.cell? ⟨gb542, 0, none⟩ = some (.int .i64 a2_0) := (blk_cell BK542.out 0).trans rfl
                    have hcz41_1 : w12.cell? ⟨gb542, 1, none⟩ = some (.int .i64 a2_1) := (blk_cell BK542.out 1).trans rfl
                    have hcz41_2 : w12.cell? ⟨gb542, 2, none⟩ = some (.int .i64 a2_2) := (blk_cell BK542.out 2).trans rfl
                    have hcz41_3 : w12.cell? ⟨gb542, 3, none⟩ = some (.int .i64 a2_3) := (blk_cell BK542.out 3).trans rfl
                    have hcz41_4 : w12.cell? ⟨gb542, 4, none⟩ = some (.int .i64 a2_4) := (blk_cell BK542.out 4).trans rfl
                    have hfz41_0 := blk_frozen BK542.out 0
                    have hfz41_1 := blk_frozen BK542.out 1
                    have hfz41_2 := blk_frozen BK542.out 2
                    have hfz41_3 := blk_frozen BK542.out 3
                    have hfz41_4 := blk_frozen BK542.out 4
                    go_wp2
                    go_meet
                    case rel => exact ⟨_, (true), (by first | rfl | (simp; done) | (simp [*]; done)), H', ⟨by first | omega | exact Nat.le_refl _⟩, ⟨by (with_reducible repeat (first | refine blk_drewN ?_ _ | refine blk_drew ?_ | refine blk_alloc ?_ _)); refine blk_far ?_ NB540_542.out _; (with_reducible repeat (first | refine blk_drewN ?_ _ | refine blk_drew ?_ | refine blk_alloc ?_ _)); exact BK540.out⟩, ⟨by (with_reducible repeat (first | refine blk_drewN ?_ _ | refine blk_drew ?_ | refine blk_alloc ?_ _)); refine blk_far ?_ NB541_542.out _; (with_reducible repeat (first | refine blk_drewN ?_ _ | refine blk_drew ?_ | refine blk_alloc ?_ _)); exact BK541.out⟩, ⟨by (with_reducible repeat (first | refine blk_drewN ?_ _ | refine blk_drew ?_ | refine blk_alloc ?_ _)); refine blk_put (cs := #[.int .i64 a2_0, .int .i64 a2_1, .int .i64 a2_2, .int .i64 a2_3, .int .i64 a2_4]) ?_ 4 _ rfl; (with_reducible repeat (first | refine blk_drewN ?_ _ | refine blk_drew ?_ | refine blk_alloc ?_ _)); exact BK542.out⟩, ⟨by repeat (first | (with_reducible first | exact HB.out | apply below_alloc | apply pw_below_drewN | apply below_drew1 | refine below_set ?_ GE540.out | refine below_set ?_ GE541.out | refine below_set ?_ GE542.out) | exact HB.out)⟩⟩
                  · rw [if_neg c38] at H
                    have c38b0 : decide (1000000000 < a2_3) = false := decide_eq_false c38
                    clear c38
                    by_cases c42 : a2_2 < 0
                    · rw [if_pos c42] at H
                      have c42b0 : decide (a2_2 < 0) = true := decide_eq_true c42
                      clear c42
                      have H' := Aside0.mk H
                      clear H
                      have hnb43 := NB542_540.out
                      have hnc43 := NB540_542.out
                      have hnb44 := NB542_541.out
                      have hnc44 := NB541_542.out
                      have hcz45_0 : w12.cell? ⟨gb542, 0, none⟩ = some (.int .i64 a2_0) := (blk_cell BK542.out 0).trans rfl
                      have hcz45_1 : w12.cell? ⟨gb542, 1, none⟩ = some (.int .i64 a2_1) := (blk_cell BK542.out 1).trans rfl
                      have hcz45_2 : w12.cell? ⟨gb542, 2, none⟩ = some (.int .i64 a2_2) := (blk_cell BK542.out 2).trans rfl
                      have hcz45_3 : w12.cell? ⟨gb542, 3, none⟩ = some (.int .i64 a2_3) := (blk_cell BK542.out 3).trans rfl
                      have hcz45_4 : w12.cell? ⟨gb542, 4, none⟩ = some (.int .i64 a2_4) := (blk_cell BK542.out 4).trans rfl
                      have hfz45_0 := blk_frozen BK542.out 0
                      have hfz45_1 := blk_frozen BK542.out 1
                      have hfz45_2 := blk_frozen BK542.out 2
                      have hfz45_3 := blk_frozen BK542.out 3
                      have hfz45_4 := blk_frozen BK542.out 4
                      go_wp2
                      go_meet
                      case rel => exact ⟨_, (true), (by first | rfl | (simp; done) | (simp [*]; done)), H', ⟨by first | omega | exact Nat.le_refl _⟩, ⟨by (with_reducible repeat (first | refine blk_drewN ?_ _ | refine blk_drew ?_ | refine blk_alloc ?_ _)); refine blk_far ?_ NB540_542.out _; (with_reducible repeat (first | refine blk_drewN ?_ _ | refine blk_drew ?_ | refine blk_alloc ?_ _)); exact BK540.out⟩, ⟨by (with_reducible repeat (first | refine blk_drewN ?_ _ | refine blk_drew ?_ | refine blk_alloc ?_ _)); refine blk_far ?_ NB541_542.out _; (with_reducible repeat (first | refine blk_drewN ?_ _ | refine blk_drew ?_ | refine blk_alloc ?_ _)); exact BK541.out⟩, ⟨by (with_reducible repeat (first | refine blk_drewN ?_ _ | refine blk_drew ?_ | refine blk_alloc ?_ _)); refine blk_put (cs := #[.int .i64 a2_0, .int .i64 a2_1, .int .i64 a2_2, .int .i64 a2_3, .int .i64 a2_4]) ?_ 4 _ rfl; (with_reducible repeat (first | refine blk_drewN ?_ _ | refine blk_drew ?_ | refine blk_alloc ?_ _)); exact BK542.out⟩, ⟨by repeat (first | (with_reducible first | exact HB.out | apply below_alloc | apply pw_below_drewN | apply below_drew1 | refine below_set ?_ GE540.out | refine below_set ?_ GE541.out | refine below_set ?_ GE542.out) | exact HB.out)⟩⟩
                    · rw [if_neg c42] at H
                      have c42b0 : decide (a2_2 < 0) = false := decide_eq_false c42
                      clear c42
                      have H' := Aside0.mk H
                      clear H
                      have hnb46 := NB542_540.out
                      have hnc46 := NB540_542.out
                      have hnb47 := NB542_541.out
                      have hnc47 := NB541_542.out
                      have hcz48_0 : w12.cell? ⟨gb542, 0, none⟩ = some (.int .i64 a2_0) := (blk_cell BK542.out 0).trans rfl
                      have hcz48_1 : w12.cell? ⟨gb542, 1, none⟩ = some (.int .i64 a2_1) := (blk_cell BK542.out 1).trans rfl
                      have hcz48_2 : w12.cell? ⟨gb542, 2, none⟩ = some (.int .i64 a2_2) := (blk_cell BK542.out 2).trans rfl
                      have hcz48_3 : w12.cell? ⟨gb542, 3, none⟩ = some (.int .i64 a2_3) := (blk_cell BK542.out 3).trans rfl
                      have hcz48_4 : w12.cell? ⟨gb542, 4, none⟩ = some (.int .i64 a2_4) := (blk_cell BK542.out 4).trans rfl
                      have hfz48_0 := blk_frozen BK542.out 0
                      have hfz48_1 := blk_frozen BK542.out 1
                      have hfz48_2 := blk_frozen BK542.out 2
                      have hfz48_3 := blk_frozen BK542.out 3
                      have hfz48_4 := blk_frozen BK542.out 4
                      go_wp2
                      go_meet
                      case rel => exact ⟨_, (decide (a2_2 > 2000)), (by first | rfl | (simp; done) | (simp [*]; done)), H', ⟨by first | omega | exact Nat.le_refl _⟩, ⟨by (with_reducible repeat (first | refine blk_drewN ?_ _ | refine blk_drew ?_ | refine blk_alloc ?_ _)); refine blk_far ?_ NB540_542.out _; (with_reducible repeat (first | refine blk_drewN ?_ _ | refine blk_drew ?_ | refine blk_alloc ?_ _)); exact BK540.out⟩, ⟨by (with_reducible repeat (first | refine blk_drewN ?_ _ | refine blk_drew ?_ | refine blk_alloc ?_ _)); refine blk_far ?_ NB541_542.out _; (with_reducible repeat (first | refine blk_drewN ?_ _ | refine blk_drew ?_ | refine blk_alloc ?_ _)); exact BK541.out⟩, ⟨by (with_reducible repeat (first | refine blk_drewN ?_ _ | refine blk_drew ?_ | refine blk_alloc ?_ _)); refine blk_put (cs := #[.int .i64 a2_0, .int .i64 a2_1, .int .i64 a2_2, .int .i64 a2_3, .int .i64 a2_4]) ?_ 4 _ rfl; (with_reducible repeat (first | refine blk_drewN ?_ _ | refine blk_drew ?_ | refine blk_alloc ?_ _)); exact BK542.out⟩, ⟨by repeat (first | (with_reducible first | exact HB.out | apply below_alloc | apply pw_below_drewN | apply below_drew1 | refine below_set ?_ GE540.out | refine below_set ?_ GE541.out | refine below_set ?_ GE542.out) | exact HB.out)⟩⟩
  case rest =>
    clear HC8
    try clear c1
    try clear c2
    try clear p2
    try clear c3
    try clear c4
    try clear p6
    try clear c9
    try clear c11
    try clear c13
    try clear c14
    try clear c16
    try clear c16b0
    try clear c17
    try clear c17b0
    try clear c18
    try clear c18b0
    try clear c19
    try clear c20
    try clear c22
    try clear c22b0
    try clear c23
    try clear c24
    try clear c26
    try clear c26b0
    try clear c27
    try clear c28
    try clear c30
    try clear c30b0
    try clear c31
    try clear c32
    try clear c34
    try clear c34b0
    try clear c35
    try clear c36
    try clear c38
    try clear c38b0
    try clear c39
    try clear c40
    try clear c42
    try clear c42b0
    try clear c43
    try clear c44
    try clear c46
    try clear c47
    try clear hcz15_0
    try clear hcz15_1
    try clear hcz15_2
    try clear hcz15_3
    try clear hcz15_4
    try clear hcz21_0
    try clear hcz21_1
    try clear hcz21_2
    try clear hcz21_3
    try clear hcz21_4
    try clear hcz25_0
    try clear hcz25_1
    try clear hcz25_2
    try clear hcz25_3
    try clear hcz25_4
    try clear hcz29_0
    try clear hcz29_1
    try clear hcz29_2
    try clear hcz29_3
    try clear hcz29_4
    try clear hcz33_0
    try clear hcz33_1
    try clear hcz33_2
    try clear hcz33_3
    try clear hcz33_4
    try clear hcz37_0
    try clear hcz37_1
    try clear hcz37_2
    try clear hcz37_3
    try clear hcz37_4
    try clear hcz41_0
    try clear hcz41_1
    try clear hcz41_2
    try clear hcz41_3
    try clear hcz41_4
    try clear hcz45_0
    try clear hcz45_1
    try clear hcz45_2
    try clear hcz45_3
    try clear hcz45_4
    try clear hcz48_0
    try clear hcz48_1
    try clear hcz48_2
    try clear hcz48_3
    try clear hcz48_4
    try clear hfz15_0
    try clear hfz15_1
    try clear hfz15_2
    try clear hfz15_3
    try clear hfz15_4
    try clear hfz21_0
    try clear hfz21_1
    try clear hfz21_2
    try clear hfz21_3
    try clear hfz21_4
    try clear hfz25_0
    try clear hfz25_1
    try clear hfz25_2
    try clear hfz25_3
    try clear hfz25_4
    try clear hfz29_0
    try clear hfz29_1
    try clear hfz29_2
    try clear hfz29_3
    try clear hfz29_4
    try clear hfz33_0
    try clear hfz33_1
    try clear hfz33_2
    try clear hfz33_3
    try clear hfz33_4
    try clear hfz37_0
    try clear hfz37_1
    try clear hfz37_2
    try clear hfz37_3
    try clear hfz37_4
    try clear hfz41_0
    try clear hfz41_1
    try clear hfz41_2
    try clear hfz41_3
    try clear hfz41_4
    try clear hfz45_0
    try clear hfz45_1
    try clear hfz45_2
    try clear hfz45_3
    try clear hfz45_4
    try clear hfz48_0
    try clear hfz48_1
    try clear hfz48_2
    try clear hfz48_3
    try clear hfz48_4
    obtain ⟨kq, x70_7, rfl, HA, HJ7, BK540, BK541, BK542, HB⟩ := hcut
    cases kq with
    | zero => exact absurd HA.out (by simp [slotmeshlaw09_TimesyncTruth.j0])
    | succ kj7 =>
      have H := HA.out
      clear HA
      simp only [slotmeshlaw09_TimesyncTruth.j0] at H
      by_cases c49 : x70_7 = true
      · subst c49
        have H1 : (some t543) = some r := by rw [if_pos rfl] at H; exact H
        clear H
        have H := H1
        clear H1
        obtain rfl := Option.some.inj H
        go_wp2
        go_ret
        exact ⟨by first | rfl | (simp [errW_none, errW_some] <;> rfl) | (simp [*, errW_none, errW_some] <;> rfl), by repeat (first | (with_reducible first | exact HB.out | apply below_alloc | apply pw_below_drewN | apply below_drew1 | refine below_set ?_ GE540.out | refine below_set ?_ GE541.out | refine below_set ?_ GE542.out) | exact HB.out)⟩
      · replace c49 := Bool.eq_false_iff.mpr c49
        subst c49
        have H1 : ((clock_Show.f a1_0 a1_1 (wrap64 ((wrap64 ((wrap64 (Int.tdiv (wrap64 (a3 + a4)) 10000)) * 10000)) + a5))).bind fun bt544 => (if bt544.2 = 0 then (if (wrap64 ((wrap64 ((wrap64 (Int.tdiv (wrap64 (a3 + a4)) 10000)) * 10000)) + a5)) < a3 then (slotmeshlaw09_TimesyncTruth.j1 kj7 t543 (wrap64 ((wrap64 ((wrap64 (Int.tdiv (wrap64 (a3 + a4)) 10000)) * 10000)) + a5)) true a0_0 a0_1 a0_2 a0_3 a0_4 a0_5 a0_6 a1_0 a1_1 a2_0 a2_1 a2_2 (wrap64 (Int.tdiv (wrap64 (a3 + a4)) 10000)) bt544.1) else ((slotmeshref09_Valid.f kj7 a0_0 a0_1 a0_2 a0_3 a0_4 a0_5 a0_6).bind fun t546 => (if t546 = true then ((slotmeshref09_Hint.f a2_0 a2_1 a2_2 (wrap64 (Int.tdiv (wrap64 (a3 + a4)) 10000)) bt544.1).bind fun t547 => (if t547 = true then ((slotmeshref09_Root.f a0_0 a0_1 a0_2 a0_3 a0_4 a0_5 a0_6).bind fun t548 => (if t548 = true then (slotmeshlaw09_TimesyncTruth.j1 kj7 t543 (wrap64 ((wrap64 ((wrap64 (Int.tdiv (wrap64 (a3 + a4)) 10000)) * 10000)) + a5)) true a0_0 a0_1 a0_2 a0_3 a0_4 a0_5 a0_6 a1_0 a1_1 a2_0 a2_1 a2_2 (wrap64 (Int.tdiv (wrap64 (a3 + a4)) 10000)) bt544.1) else (if a0_0 = true then ((slotmeshlaw09_holds.f a0_0 a0_1 a0_2 a0_3 a0_4 a0_5 a0_6 a1_0 a1_1 a3).bind fun t549 => (slotmeshlaw09_TimesyncTruth.j1 kj7 t543 (wrap64 ((wrap64 ((wrap64 (Int.tdiv (wrap64 (a3 + a4)) 10000)) * 10000)) + a5)) (!t549) a0_0 a0_1 a0_2 a0_3 a0_4 a0_5 a0_6 a1_0 a1_1 a2_0 a2_1 a2_2 (wrap64 (Int.tdiv (wrap64 (a3 + a4)) 10000)) bt544.1)) else (slotmeshlaw09_TimesyncTruth.j1 kj7 t543 (wrap64 ((wrap64 ((wrap64 (Int.tdiv (wrap64 (a3 + a4)) 10000)) * 10000)) + a5)) false a0_0 a0_1 a0_2 a0_3 a0_4 a0_5 a0_6 a1_0 a1_1 a2_0 a2_1 a2_2 (wrap64 (Int.tdiv (wrap64 (a3 + a4)) 10000)) bt544.1)))) else (slotmeshlaw09_TimesyncTruth.j1 kj7 t543 (wrap64 ((wrap64 ((wrap64 (Int.tdiv (wrap64 (a3 + a4)) 10000)) * 10000)) + a5)) true a0_0 a0_1 a0_2 a0_3 a0_4 a0_5 a0_6 a1_0 a1_1 a2_0 a2_1 a2_2 (wrap64 (Int.tdiv (wrap64 (a3 + a4)) 10000)) bt544.1))) else (slotmeshlaw09_TimesyncTruth.j1 kj7 t543 (wrap64 ((wrap64 ((wrap64 (Int.tdiv (wrap64 (a3 + a4)) 10000)) * 10000)) + a5)) true a0_0 a0_1 a0_2 a0_3 a0_4 a0_5 a0_6 a1_0 a1_1 a2_0 a2_1 a2_2 (wrap64 (Int.tdiv (wrap64 (a3 + a4)) 10000)) bt544.1)))) else (slotmeshlaw09_TimesyncTruth.j1 kj7 t543 (wrap64 ((wrap64 ((wrap64 (Int.tdiv (wrap64 (a3 + a4)) 10000)) * 10000)) + a5)) true a0_0 a0_1 a0_2 a0_3 a0_4 a0_5 a0_6 a1_0 a1_1 a2_0 a2_1 a2_2 (wrap64 (Int.tdiv (wrap64 (a3 + a4)) 10000)) bt544.1))) = some r := by rw [if_neg (show ¬ (false = true) by decide)] at H; exact H
        clear H
        have H := H1
        clear H1
        replace H := Option.bind_eq_some_iff.mp H
        obtain ⟨⟨t544, t545⟩, A500, H⟩ := H
        replace H : (if t545 = 0 then (if (wrap64 ((wrap64 ((wrap64 (Int.tdiv (wrap64 (a3 + a4)) 10000)) * 10000)) + a5)) < a3 then (slotmeshlaw09_TimesyncTruth.j1 kj7 t543 (wrap64 ((wrap64 ((wrap64 (Int.tdiv (wrap64 (a3 + a4)) 10000)) * 10000)) + a5)) true a0_0 a0_1 a0_2 a0_3 a0_4 a0_5 a0_6 a1_0 a1_1 a2_0 a2_1 a2_2 (wrap64 (Int.tdiv (wrap64 (a3 + a4)) 10000)) t544) else ((slotmeshref09_Valid.f kj7 a0_0 a0_1 a0_2 a0_3 a0_4 a0_5 a0_6).bind fun t546 => (if t546 = true then ((slotmeshref09_Hint.f a2_0 a2_1 a2_2 (wrap64 (Int.tdiv (wrap64 (a3 + a4)) 10000)) t544).bind fun t547 => (if t547 = true then ((slotmeshref09_Root.f a0_0 a0_1 a0_2 a0_3 a0_4 a0_5 a0_6).bind fun t548 => (if t548 = true then (slotmeshlaw09_TimesyncTruth.j1 kj7 t543 (wrap64 ((wrap64 ((wrap64 (Int.tdiv (wrap64 (a3 + a4)) 10000)) * 10000)) + a5)) true a0_0 a0_1 a0_2 a0_3 a0_4 a0_5 a0_6 a1_0 a1_1 a2_0 a2_1 a2_2 (wrap64 (Int.tdiv (wrap64 (a3 + a4)) 10000)) t544) else (if a0_0 = true then ((slotmeshlaw09_holds.f a0_0 a0_1 a0_2 a0_3 a0_4 a0_5 a0_6 a1_0 a1_1 a3).bind fun t549 => (slotmeshlaw09_TimesyncTruth.j1 kj7 t543 (wrap64 ((wrap64 ((wrap64 (Int.tdiv (wrap64 (a3 + a4)) 10000)) * 10000)) + a5)) (!t549) a0_0 a0_1 a0_2 a0_3 a0_4 a0_5 a0_6 a1_0 a1_1 a2_0 a2_1 a2_2 (wrap64 (Int.tdiv (wrap64 (a3 + a4)) 10000)) t544)) else (slotmeshlaw09_TimesyncTruth.j1 kj7 t543 (wrap64 ((wrap64 ((wrap64 (Int.tdiv (wrap64 (a3 + a4)) 10000)) * 10000)) + a5)) false a0_0 a0_1 a0_2 a0_3 a0_4 a0_5 a0_6 a1_0 a1_1 a2_0 a2_1 a2_2 (wrap64 (Int.tdiv (wrap64 (a3 + a4)) 10000)) t544)))) else (slotmeshlaw09_TimesyncTruth.j1 kj7 t543 (wrap64 ((wrap64 ((wrap64 (Int.tdiv (wrap64 (a3 + a4)) 10000)) * 10000)) + a5)) true a0_0 a0_1 a0_2 a0_3 a0_4 a0_5 a0_6 a1_0 a1_1 a2_0 a2_1 a2_2 (wrap64 (Int.tdiv (wrap64 (a3 + a4)) 10000)) t544))) else (slotmeshlaw09_TimesyncTruth.j1 kj7 t543 (wrap64 ((wrap64 ((wrap64 (Int.tdiv (wrap64 (a3 + a4)) 10000)) * 10000)) + a5)) true a0_0 a0_1 a0_2 a0_3 a0_4 a0_5 a0_6 a1_0 a1_1 a2_0 a2_1 a2_2 (wrap64 (Int.tdiv (wrap64 (a3 + a4)) 10000)) t544)))) else (slotmeshlaw09_TimesyncTruth.j1 kj7 t543 (wrap64 ((wrap64 ((wrap64 (Int.tdiv (wrap64 (a3 + a4)) 10000)) * 10000)) + a5)) true a0_0 a0_1 a0_2 a0_3 a0_4 a0_5 a0_6 a1_0 a1_1 a2_0 a2_1 a2_2 (wrap64 (Int.tdiv (wrap64 (a3 + a4)) 10000)) t544)) = some r := H
        have A50 := Aside0.mk A500
        clear A500
        have HC51 := Aside0.mk H
        clear H
        have hnb52 := NB542_540.out
        have hnc52 := NB540_542.out
        have hnb53 := NB542_541.out
        have hnc53 := NB541_542.out
        have hcz54_0 : wc.cell? ⟨gb542, 0, none⟩ = some (.int .i64 a2_0) := (blk_cell BK542.out 0).trans rfl
        have hcz54_1 : wc.cell? ⟨gb542, 1, none⟩ = some (.int .i64 a2_1) := (blk_cell BK542.out 1).trans rfl
        have hcz54_2 : wc.cell? ⟨gb542, 2, none⟩ = some (.int .i64 a2_2) := (blk_cell BK542.out 2).trans rfl
        have hcz54_3 : wc.cell? ⟨gb542, 3, none⟩ = some (.int .i64 a2_3) := (blk_cell BK542.out 3).trans rfl
        have hcz54_4 : wc.cell? ⟨gb542, 4, none⟩ = some (.int .i64 0) := (blk_cell BK542.out 4).trans rfl
        have hfz54_0 := blk_frozen BK542.out 0
        have hfz54_1 := blk_frozen BK542.out 1
        have hfz54_2 := blk_frozen BK542.out 2
        have hfz54_3 := blk_frozen BK542.out 3
        have hfz54_4 := blk_frozen BK542.out 4
        have hnb55 := NB541_540.out
        have hnc55 := NB540_541.out
        have hcz56_0 : wc.cell? ⟨gb541, 0, none⟩ = some (.int .i64 a1_0) := (blk_cell BK541.out 0).trans rfl
        have hcz56_1 : wc.cell? ⟨gb541, 1, none⟩ = some (.int .i64 a1_1) := (blk_cell BK541.out 1).trans rfl
        have hfz56_0 := blk_frozen BK541.out 0
        have hfz56_1 := blk_frozen BK541.out 1
        go_upto_region 9 with (first | ((with_reducible refine gate_callee (f := 24) rfl ?_); refine goesL_ (some 85) rfl rfl Try.func24 (by kernel_rfl) rfl #[.agg #[.int .i64 a1_0, .int .i64 a1_1], .int .i64 (wrap64 ((wrap64 ((wrap64 (Int.tdiv (wrap64 (a3 + a4)) 10000)) * 10000)) + a5))] rfl (by (try simp only [List.map_toArray, List.map_cons, List.map_nil]); first | done | rfl | (simp only [List.length_drop, List.length_take]; rfl)) ?_; (with_reducible refine (clock_Show.calls a1_0 a1_1 (wrap64 ((wrap64 ((wrap64 (Int.tdiv (wrap64 (a3 + a4)) 10000)) * 10000)) + a5)) t544 t545 _ A50.out).mono ?_); rintro e w57 ⟨rfl, hb⟩; refine ⟨_, rfl, ?_⟩; have n0_ := Aside0.mk (blk_below (g := gb540) (o := .cells #[.bool a0_0, .int .i64 a0_1, .int .i64 a0_2, .int .i64 a0_3, .int .i64 a0_4, .int .i64 a0_5, .int .i64 a0_6] 25 (0, 0)) (by (with_reducible repeat (first | refine blk_drewN ?_ _ | refine blk_drew ?_ | refine blk_alloc ?_ _)); refine blk_far ?_ NB540_542.out _; (with_reducible repeat (first | refine blk_drewN ?_ _ | refine blk_drew ?_ | refine blk_alloc ?_ _)); exact BK540.out) hb); have n1_ := Aside0.mk (blk_below (g := gb541) (o := .cells #[.int .i64 a1_0, .int .i64 a1_1] 47 (0, 0)) (by (with_reducible repeat (first | refine blk_drewN ?_ _ | refine blk_drew ?_ | refine blk_alloc ?_ _)); refine blk_far ?_ NB541_542.out _; (with_reducible repeat (first | refine blk_drewN ?_ _ | refine blk_drew ?_ | refine blk_alloc ?_ _)); exact BK541.out) hb); have n2_ := Aside0.mk (blk_below (g := gb542) (o := .cells #[.int .i64 a2_0, .int .i64 a2_1, .int .i64 a2_2, .int .i64 (wrap64 (Int.tdiv (wrap64 (a3 + a4)) 10000)), .int .i64 0] 27 (0, 0)) (by (with_reducible repeat (first | refine blk_drewN ?_ _ | refine blk_drew ?_ | refine blk_alloc ?_ _)); refine blk_put (cs := #[.int .i64 a2_0, .int .i64 a2_1, .int .i64 a2_2, .int .i64 a2_3, .int .i64 0]) ?_ 3 _ rfl; (with_reducible repeat (first | refine blk_drewN ?_ _ | refine blk_drew ?_ | refine blk_alloc ?_ _)); exact BK542.out) hb); have n3_ := Aside0.mk (below_step (by repeat (first | (with_reducible first | exact HB.out | apply below_alloc | apply pw_below_drewN | apply below_drew1 | refine below_set ?_ GE540.out | refine below_set ?_ GE541.out | refine below_set ?_ GE542.out) | exact HB.out)) hb); clear BK540; clear BK541; clear BK542; clear HB; have BK540 := n0_; have BK541 := n1_; have BK542 := n2_; have HB := n3_; clear n0_ n1_ n2_ n3_; (try clear hb); (try clear hb2); (try clear hk); (try clear hi); have hcz58_0 : w57.cell? ⟨gb542, 0, none⟩ = some (.int .i64 a2_0) := (blk_cell BK542.out 0).trans rfl; have hcz58_1 : w57.cell? ⟨gb542, 1, none⟩ = some (.int .i64 a2_1) := (blk_cell BK542.out 1).trans rfl; have hcz58_2 : w57.cell? ⟨gb542, 2, none⟩ = some (.int .i64 a2_2) := (blk_cell BK542.out 2).trans rfl; have hcz58_3 : w57.cell? ⟨gb542, 3, none⟩ = some (.int .i64 (wrap64 (Int.tdiv (wrap64 (a3 + a4)) 10000))) := (blk_cell BK542.out 3).trans rfl; have hcz58_4 : w57.cell? ⟨gb542, 4, none⟩ = some (.int .i64 0) := (blk_cell BK542.out 4).trans rfl; have hfz58_0 := blk_frozen BK542.out 0; have hfz58_1 := blk_frozen BK542.out 1; have hfz58_2 := blk_frozen BK542.out 2; have hfz58_3 := blk_frozen BK542.out 3; have hfz58_4 := blk_frozen BK542.out 4))
        (try simp only [Act.put, List.setIfInBounds_toArray, List.set_cons_zero, List.set_cons_succ])
        go_cut [121] (fun v121 wc => ∃ (kq : Nat) (x121_50 : Bool), v121 = .bool x121_50 ∧ Aside0 (slotmeshlaw09_TimesyncTruth.j1 kq t543 (wrap64 ((wrap64 ((wrap64 (Int.tdiv (wrap64 (a3 + a4)) 10000)) * 10000)) + a5)) x121_50 a0_0 a0_1 a0_2 a0_3 a0_4 a0_5 a0_6 a1_0 a1_1 a2_0 a2_1 a2_2 (wrap64 (Int.tdiv (wrap64 (a3 + a4)) 10000)) t544 = some r) ∧ Aside0 (kq ≤ kj7) ∧ Aside0 (wc.heap[gb540]? = some (.cells #[.bool a0_0, .int .i64 a0_1, .int .i64 a0_2, .int .i64 a0_3, .int .i64 a0_4, .int .i64 a0_5, .int .i64 a0_6] 25 (0, 0))) ∧ Aside0 (wc.heap[gb541]? = some (.cells #[.int .i64 a1_0, .int .i64 a1_1] 47 (0, 0))) ∧ Aside0 (wc.heap[gb542]? = some (.cells #[.int .i64 a2_0, .int .i64 a2_1, .int .i64 a2_2, .int .i64 (wrap64 (Int.tdiv (wrap64 (a3 + a4)) 10000)), .int .i64 t544] 27 (0, 0))) ∧ Aside0 (Below w.heap.size w wc))
        case first =>
          have H := HC51.out
          clear HC51
          by_cases c59 : t545 = 0
          · rw [if_pos c59] at H
            have c59b0 : (t545 == 0) = true := beq_iff_eq.mpr c59
            have c59b1 : (t545 != 0) = false := bne_eq_false_iff_eq.mpr c59
            clear c59
            (first | rw [c59b0] | (simp only [i64_w, i32_w]; rw [c59b0]) | skip)
            by_cases c60 : (wrap64 ((wrap64 ((wrap64 (Int.tdiv (wrap64 (a3 + a4)) 10000)) * 10000)) + a5)) < a3
            · rw [if_pos c60] at H
              have c60b0 : decide ((wrap64 ((wrap64 ((wrap64 (Int.tdiv (wrap64 (a3 + a4)) 10000)) * 10000)) + a5)) < a3) = true := decide_eq_true c60
              clear c60
              have H' := Aside0.mk H
              clear H
              go_wp2
              go_meet
              case rel => exact ⟨_, (true), (by first | rfl | (simp; done) | (simp [*]; done)), H', ⟨by have := HJ7.out; first | omega | exact Nat.le_refl _⟩, ⟨by (with_reducible repeat (first | refine blk_drewN ?_ _ | refine blk_drew ?_ | refine blk_alloc ?_ _)); refine blk_far ?_ NB540_542.out _; (with_reducible repeat (first | refine blk_drewN ?_ _ | refine blk_drew ?_ | refine blk_alloc ?_ _)); exact BK540.out⟩, ⟨by (with_reducible repeat (first | refine blk_drewN ?_ _ | refine blk_drew ?_ | refine blk_alloc ?_ _)); refine blk_far ?_ NB541_542.out _; (with_reducible repeat (first | refine blk_drewN ?_ _ | refine blk_drew ?_ | refine blk_alloc ?_ _)); exact BK541.out⟩, ⟨by (with_reducible repeat (first | refine blk_drewN ?_ _ | refine blk_drew ?_ | refine blk_alloc ?_ _)); refine blk_put (cs := #[.int .i64 a2_0, .int .i64 a2_1, .int .i64 a2_2, .int .i64 (wrap64 (Int.tdiv (wrap64 (a3 + a4)) 10000)), .int .i64 0]) ?_ 4 _ rfl; (with_reducible repeat (first | refine blk_drewN ?_ _ | refine blk_drew ?_ | refine blk_alloc ?_ _)); exact BK542.out⟩, ⟨by repeat (first | (with_reducible first | exact HB.out | apply below_alloc | apply pw_below_drewN | apply below_drew1 | refine below_set ?_ GE540.out | refine below_set ?_ GE541.out | refine below_set ?_ GE542.out) | exact HB.out)⟩⟩
            · rw [if_neg c60] at H
              have c60b0 : decide ((wrap64 ((wrap64 ((wrap64 (Int.tdiv (wrap64 (a3 + a4)) 10000)) * 10000)) + a5)) < a3) = false := decide_eq_false c60
              clear c60
              replace H := Option.bind_eq_some_iff.mp H
              obtain ⟨t546, A610, H⟩ := H
              replace H : (if t546 = true then ((slotmeshref09_Hint.f a2_0 a2_1 a2_2 (wrap64 (Int.tdiv (wrap64 (a3 + a4)) 10000)) t544).bind fun t547 => (if t547 = true then ((slotmeshref09_Root.f a0_0 a0_1 a0_2 a0_3 a0_4 a0_5 a0_6).bind fun t548 => (if t548 = true then (slotmeshlaw09_TimesyncTruth.j1 kj7 t543 (wrap64 ((wrap64 ((wrap64 (Int.tdiv (wrap64 (a3 + a4)) 10000)) * 10000)) + a5)) true a0_0 a0_1 a0_2 a0_3 a0_4 a0_5 a0_6 a1_0 a1_1 a2_0 a2_1 a2_2 (wrap64 (Int.tdiv (wrap64 (a3 + a4)) 10000)) t544) else (if a0_0 = true then ((slotmeshlaw09_holds.f a0_0 a0_1 a0_2 a0_3 a0_4 a0_5 a0_6 a1_0 a1_1 a3).bind fun t549 => (slotmeshlaw09_TimesyncTruth.j1 kj7 t543 (wrap64 ((wrap64 ((wrap64 (Int.tdiv (wrap64 (a3 + a4)) 10000)) * 10000)) + a5)) (!t549) a0_0 a0_1 a0_2 a0_3 a0_4 a0_5 a0_6 a1_0 a1_1 a2_0 a2_1 a2_2 (wrap64 (Int.tdiv (wrap64 (a3 + a4)) 10000)) t544)) else (slotmeshlaw09_TimesyncTruth.j1 kj7 t543 (wrap64 ((wrap64 ((wrap64 (Int.tdiv (wrap64 (a3 + a4)) 10000)) * 10000)) + a5)) false a0_0 a0_1 a0_2 a0_3 a0_4 a0_5 a0_6 a1_0 a1_1 a2_0 a2_1 a2_2 (wrap64 (Int.tdiv (wrap64 (a3 + a4)) 10000)) t544)))) else (slotmeshlaw09_TimesyncTruth.j1 kj7 t543 (wrap64 ((wrap64 ((wrap64 (Int.tdiv (wrap64 (a3 + a4)) 10000)) * 10000)) + a5)) true a0_0 a0_1 a0_2 a0_3 a0_4 a0_5 a0_6 a1_0 a1_1 a2_0 a2_1 a2_2 (wrap64 (Int.tdiv (wrap64 (a3 + a4)) 10000)) t544))) else (slotmeshlaw09_TimesyncTruth.j1 kj7 t543 (wrap64 ((wrap64 ((wrap64 (Int.tdiv (wrap64 (a3 + a4)) 10000)) * 10000)) + a5)) true a0_0 a0_1 a0_2 a0_3 a0_4 a0_5 a0_6 a1_0 a1_1 a2_0 a2_1 a2_2 (wrap64 (Int.tdiv (wrap64 (a3 + a4)) 10000)) t544)) = some r := H
              have A61 := Aside0.mk A610
              clear A610
              by_cases c62 : t546 = true
              · subst c62
                have H1 : ((slotmeshref09_Hint.f a2_0 a2_1 a2_2 (wrap64 (Int.tdiv (wrap64 (a3 + a4)) 10000)) t544).bind fun t547 => (if t547 = true then ((slotmeshref09_Root.f a0_0 a0_1 a0_2 a0_3 a0_4 a0_5 a0_6).bind fun t548 => (if t548 = true then (slotmeshlaw09_TimesyncTruth.j1 kj7 t543 (wrap64 ((wrap64 ((wrap64 (Int.tdiv (wrap64 (a3 + a4)) 10000)) * 10000)) + a5)) true a0_0 a0_1 a0_2 a0_3 a0_4 a0_5 a0_6 a1_0 a1_1 a2_0 a2_1 a2_2 (wrap64 (Int.tdiv (wrap64 (a3 + a4)) 10000)) t544) else (if a0_0 = true then ((slotmeshlaw09_holds.f a0_0 a0_1 a0_2 a0_3 a0_4 a0_5 a0_6 a1_0 a1_1 a3).bind fun t549 => (slotmeshlaw09_TimesyncTruth.j1 kj7 t543 (wrap64 ((wrap64 ((wrap64 (Int.tdiv (wrap64 (a3 + a4)) 10000)) * 10000)) + a5)) (!t549) a0_0 a0_1 a0_2 a0_3 a0_4 a0_5 a0_6 a1_0 a1_1 a2_0 a2_1 a2_2 (wrap64 (Int.tdiv (wrap64 (a3 + a4)) 10000)) t544)) else (slotmeshlaw09_TimesyncTruth.j1 kj7 t543 (wrap64 ((wrap64 ((wrap64 (Int.tdiv (wrap64 (a3 + a4)) 10000)) * 10000)) + a5)) false a0_0 a0_1 a0_2 a0_3 a0_4 a0_5 a0_6 a1_0 a1_1 a2_0 a2_1 a2_2 (wrap64 (Int.tdiv (wrap64 (a3 + a4)) 10000)) t544)))) else (slotmeshlaw09_TimesyncTruth.j1 kj7 t543 (wrap64 ((wrap64 ((wrap64 (Int.tdiv (wrap64 (a3 + a4)) 10000)) * 10000)) + a5)) true a0_0 a0_1 a0_2 a0_3 a0_4 a0_5 a0_6 a1_0 a1_1 a2_0 a2_1 a2_2 (wrap64 (Int.tdiv (wrap64 (a3 + a4)) 10000)) t544))) = some r := by rw [if_pos rfl] at H; exact H
                clear H
                have H := H1
                clear H1
                replace H := Option.bind_eq_some_iff.mp H
                obtain ⟨t547, A630, H⟩ := H
                replace H : (if t547 = true then ((slotmeshref09_Root.f a0_0 a0_1 a0_2 a0_3 a0_4 a0_5 a0_6).bind fun t548 => (if t548 = true then (slotmeshlaw09_TimesyncTruth.j1 kj7 t543 (wrap64 ((wrap64 ((wrap64 (Int.tdiv (wrap64 (a3 + a4)) 10000)) * 10000)) + a5)) true a0_0 a0_1 a0_2 a0_3 a0_4 a0_5 a0_6 a1_0 a1_1 a2_0 a2_1 a2_2 (wrap64 (Int.tdiv (wrap64 (a3 + a4)) 10000)) t544) else (if a0_0 = true then ((slotmeshlaw09_holds.f a0_0 a0_1 a0_2 a0_3 a0_4 a0_5 a0_6 a1_0 a1_1 a3).bind fun t549 => (slotmeshlaw09_TimesyncTruth.j1 kj7 t543 (wrap64 ((wrap64 ((wrap64 (Int.tdiv (wrap64 (a3 + a4)) 10000)) * 10000)) + a5)) (!t549) a0_0 a0_1 a0_2 a0_3 a0_4 a0_5 a0_6 a1_0 a1_1 a2_0 a2_1 a2_2 (wrap64 (Int.tdiv (wrap64 (a3 + a4)) 10000)) t544)) else (slotmeshlaw09_TimesyncTruth.j1 kj7 t543 (wrap64 ((wrap64 ((wrap64 (Int.tdiv (wrap64 (a3 + a4)) 10000)) * 10000)) + a5)) false a0_0 a0_1 a0_2 a0_3 a0_4 a0_5 a0_6 a1_0 a1_1 a2_0 a2_1 a2_2 (wrap64 (Int.tdiv (wrap64 (a3 + a4)) 10000)) t544)))) else (slotmeshlaw09_TimesyncTruth.j1 kj7 t543 (wrap64 ((wrap64 ((wrap64 (Int.tdiv (wrap64 (a3 + a4)) 10000)) * 10000)) + a5)) true a0_0 a0_1 a0_2 a0_3 a0_4 a0_5 a0_6 a1_0 a1_1 a2_0 a2_1 a2_2 (wrap64 (Int.tdiv (wrap64 (a3 + a4)) 10000)) t544)) = some r := H
                have A63 := Aside0.mk A630
                clear A630
                by_cases c64 : t547 = true
                · subst c64
                  have H1 : ((slotmeshref09_Root.f a0_0 a0_1 a0_2 a0_3 a0_4 a0_5 a0_6).bind fun t548 => (if t548 = true then (slotmeshlaw09_TimesyncTruth.j1 kj7 t543 (wrap64 ((wrap64 ((wrap64 (Int.tdiv (wrap64 (a3 + a4)) 10000)) * 10000)) + a5)) true a0_0 a0_1 a0_2 a0_3 a0_4 a0_5 a0_6 a1_0 a1_1 a2_0 a2_1 a2_2 (wrap64 (Int.tdiv (wrap64 (a3 + a4)) 10000)) t544) else (if a0_0 = true then ((slotmeshlaw09_holds.f a0_0 a0_1 a0_2 a0_3 a0_4 a0_5 a0_6 a1_0 a1_1 a3).bind fun t549 => (slotmeshlaw09_TimesyncTruth.j1 kj7 t543 (wrap64 ((wrap64 ((wrap64 (Int.tdiv (wrap64 (a3 + a4)) 10000)) * 10000)) + a5)) (!t549) a0_0 a0_1 a0_2 a0_3 a0_4 a0_5 a0_6 a1_0 a1_1 a2_0 a2_1 a2_2 (wrap64 (Int.tdiv (wrap64 (a3 + a4)) 10000)) t544)) else (slotmeshlaw09_TimesyncTruth.j1 kj7 t543 (wrap64 ((wrap64 ((wrap64 (Int.tdiv (wrap64 (a3 + a4)) 10000)) * 10000)) + a5)) false a0_0 a0_1 a0_2 a0_3 a0_4 a0_5 a0_6 a1_0 a1_1 a2_0 a2_1 a2_2 (wrap64 (Int.tdiv (wrap64 (a3 + a4)) 10000)) t544)))) = some r := by rw [if_pos rfl] at H; exact H
                  clear H
                  have H := H1
                  clear H1
                  replace H := Option.bind_eq_some_iff.mp H
                  obtain ⟨t548, A650, H⟩ := H
                  replace H : (if t548 = true then (slotmeshlaw09_TimesyncTruth.j1 kj7 t543 (wrap64 ((wrap64 ((wrap64 (Int.tdiv (wrap64 (a3 + a4)) 10000)) * 10000)) + a5)) true a0_0 a0_1 a0_2 a0_3 a0_4 a0_5 a0_6 a1_0 a1_1 a2_0 a2_1 a2_2 (wrap64 (Int.tdiv (wrap64 (a3 + a4)) 10000)) t544) else (if a0_0 = true then ((slotmeshlaw09_holds.f a0_0 a0_1 a0_2 a0_3 a0_4 a0_5 a0_6 a1_0 a1_1 a3).bind fun t549 => (slotmeshlaw09_TimesyncTruth.j1 kj7 t543 (wrap64 ((wrap64 ((wrap64 (Int.tdiv (wrap64 (a3 + a4)) 10000)) * 10000)) + a5)) (!t549) a0_0 a0_1 a0_2 a0_3 a0_4 a0_5 a0_6 a1_0 a1_1 a2_0 a2_1 a2_2 (wrap64 (Int.tdiv (wrap64 (a3 + a4)) 10000)) t544)) else (slotmeshlaw09_TimesyncTruth.j1 kj7 t543 (wrap64 ((wrap64 ((wrap64 (Int.tdiv (wrap64 (a3 + a4)) 10000)) * 10000)) + a5)) false a0_0 a0_1 a0_2 a0_3 a0_4 a0_5 a0_6 a1_0 a1_1 a2_0 a2_1 a2_2 (wrap64 (Int.tdiv (wrap64 (a3 + a4)) 10000)) t544))) = some r := H
                  have A65 := Aside0.mk A650
                  clear A650
                  by_cases c66 : t548 = true
                  · subst c66
                    have H1 : (slotmeshlaw09_TimesyncTruth.j1 kj7 t543 (wrap64 ((wrap64 ((wrap64 (Int.tdiv (wrap64 (a3 + a4)) 10000)) * 10000)) + a5)) true a0_0 a0_1 a0_2 a0_3 a0_4 a0_5 a0_6 a1_0 a1_1 a2_0 a2_1 a2_2 (wrap64 (Int.tdiv (wrap64 (a3 + a4)) 10000)) t544) = some r := by rw [if_pos rfl] at H; exact H
                    clear H
                    have H := H1
                    clear H1
                    have H' := Aside0.mk H
                    clear H
                    have hnb67 := NB540_541.out
                    have hnc67 := NB541_540.out
                    have hnb68 := NB540_542.out
                    have hnc68 := NB542_540.out
                    have hcz69_0 : w57.cell? ⟨gb540, 0, none⟩ = some (.bool a0_0) := (blk_cell BK540.out 0).trans rfl
                    have hcz69_1 : w57.cell? ⟨gb540, 1, none⟩ = some (.int .i64 a0_1) := (blk_cell BK540.out 1).trans rfl
                    have hcz69_2 : w57.cell? ⟨gb540, 2, none⟩ = some (.int .i64 a0_2) := (blk_cell BK540.out 2).trans rfl
                    have hcz69_3 : w57.cell? ⟨gb540, 3, none⟩ = some (.int .i64 a0_3) := (blk_cell BK540.out 3).trans rfl
                    have hcz69_4 : w57.cell? ⟨gb540, 4, none⟩ = some (.int .i64 a0_4) := (blk_cell BK540.out 4).trans rfl
                    have hcz69_5 : w57.cell? ⟨gb540, 5, none⟩ = some (.int .i64 a0_5) := (blk_cell BK540.out 5).trans rfl
                    have hcz69_6 : w57.cell? ⟨gb540, 6, none⟩ = some (.int .i64 a0_6) := (blk_cell BK540.out 6).trans rfl
                    have hfz69_0 := blk_frozen BK540.out 0
                    have hfz69_1 := blk_frozen BK540.out 1
                    have hfz69_2 := blk_frozen BK540.out 2
                    have hfz69_3 := blk_frozen BK540.out 3
                    have hfz69_4 := blk_frozen BK540.out 4
                    have hfz69_5 := blk_frozen BK540.out 5
                    have hfz69_6 := blk_frozen BK540.out 6
                    go_wp2_with (first | (go_at_call 20; (with_reducible refine (slotmeshref09_Valid.calls kj7 a0_0 a0_1 a0_2 a0_3 a0_4 a0_5 a0_6 true _ A61.out).mono ?_); rintro e w70 ⟨rfl, hb⟩; have n0_ := Aside0.mk (blk_below (g := gb540) (o := .cells #[.bool a0_0, .int .i64 a0_1, .int .i64 a0_2, .int .i64 a0_3, .int .i64 a0_4, .int .i64 a0_5, .int .i64 a0_6] 25 (0, 0)) (by (with_reducible repeat (first | refine blk_drewN ?_ _ | refine blk_drew ?_ | refine blk_alloc ?_ _)); refine blk_far ?_ NB540_542.out _; (with_reducible repeat (first | refine blk_drewN ?_ _ | refine blk_drew ?_ | refine blk_alloc ?_ _)); exact BK540.out) hb); have n1_ := Aside0.mk (blk_below (g := gb541) (o := .cells #[.int .i64 a1_0, .int .i64 a1_1] 47 (0, 0)) (by (with_reducible repeat (first | refine blk_drewN ?_ _ | refine blk_drew ?_ | refine blk_alloc ?_ _)); refine blk_far ?_ NB541_542.out _; (with_reducible repeat (first | refine blk_drewN ?_ _ | refine blk_drew ?_ | refine blk_alloc ?_ _)); exact BK541.out) hb); have n2_ := Aside0.mk (blk_below (g := gb542) (o := .cells #[.int .i64 a2_0, .int .i64 a2_1, .int .i64 a2_2, .int .i64 (wrap64 (Int.tdiv (wrap64 (a3 + a4)) 10000)), .int .i64 t544] 27 (0, 0)) (by (with_reducible repeat (first | refine blk_drewN ?_ _ | refine blk_drew ?_ | refine blk_alloc ?_ _)); refine blk_put (cs := #[.int .i64 a2_0, .int .i64 a2_1, .int .i64 a2_2, .int .i64 (wrap64 (Int.tdiv (wrap64 (a3 + a4)) 10000)), .int .i64 0]) ?_ 4 _ rfl; (with_reducible repeat (first | refine blk_drewN ?_ _ | refine blk_drew ?_ | refine blk_alloc ?_ _)); exact BK542.out) hb); have n3_ := Aside0.mk (below_step (by repeat (first | (with_reducible first | exact HB.out | apply below_alloc | apply pw_below_drewN | apply below_drew1 | refine below_set ?_ GE540.out | refine below_set ?_ GE541.out | refine below_set ?_ GE542.out) | exact HB.out)) hb); clear BK540; clear BK541; clear BK542; clear HB; have BK540 := n0_; have BK541 := n1_; have BK542 := n2_; have HB := n3_; clear n0_ n1_ n2_ n3_; (try clear hb); (try clear hb2); (try clear hk); (try clear hi); have hnb71 := NB542_541.out; have hnc71 := NB541_542.out; have hcz72_0 : w70.cell? ⟨gb542, 0, none⟩ = some (.int .i64 a2_0) := (blk_cell BK542.out 0).trans rfl; have hcz72_1 : w70.cell? ⟨gb542, 1, none⟩ = some (.int .i64 a2_1) := (blk_cell BK542.out 1).trans rfl; have hcz72_2 : w70.cell? ⟨gb542, 2, none⟩ = some (.int .i64 a2_2) := (blk_cell BK542.out 2).trans rfl; have hcz72_3 : w70.cell? ⟨gb542, 3, none⟩ = some (.int .i64 (wrap64 (Int.tdiv (wrap64 (a3 + a4)) 10000))) := (blk_cell BK542.out 3).trans rfl; have hcz72_4 : w70.cell? ⟨gb542, 4, none⟩ = some (.int .i64 t544) := (blk_cell BK542.out 4).trans rfl; have hfz72_0 := blk_frozen BK542.out 0; have hfz72_1 := blk_frozen BK542.out 1; have hfz72_2 := blk_frozen BK542.out 2; have hfz72_3 := blk_frozen BK542.out 3; have hfz72_4 := blk_frozen BK542.out 4) | (go_at_call 25; (with_reducible refine (slotmeshref09_Hint.calls a2_0 a2_1 a2_2 (wrap64 (Int.tdiv (wrap64 (a3 + a4)) 10000)) t544 true _ A63.out).mono ?_); rintro e w73 ⟨rfl, hb⟩; have n0_ := Aside0.mk (blk_below (g := gb540) (o := .cells #[.bool a0_0, .int .i64 a0_1, .int .i64 a0_2, .int .i64 a0_3, .int .i64 a0_4, .int .i64 a0_5, .int .i64 a0_6] 25 (0, 0)) (by (with_reducible repeat (first | refine blk_drewN ?_ _ | refine blk_drew ?_ | refine blk_alloc ?_ _)); exact BK540.out) hb); have n1_ := Aside0.mk (blk_below (g := gb541) (o := .cells #[.int .i64 a1_0, .int .i64 a1_1] 47 (0, 0)) (by (with_reducible repeat (first | refine blk_drewN ?_ _ | refine blk_drew ?_ | refine blk_alloc ?_ _)); exact BK541.out) hb); have n2_ := Aside0.mk (blk_below (g := gb542) (o := .cells #[.int .i64 a2_0, .int .i64 a2_1, .int .i64 a2_2, .int .i64 (wrap64 (Int.tdiv (wrap64 (a3 + a4)) 10000)), .int .i64 t544] 27 (0, 0)) (by (with_reducible repeat (first | refine blk_drewN ?_ _ | refine blk_drew ?_ | refine blk_alloc ?_ _)); exact BK542.out) hb); have n3_ := Aside0.mk (below_step (by repeat (first | (with_reducible first | exact HB.out | apply below_alloc | apply pw_below_drewN | apply below_drew1 | refine below_set ?_ GE540.out | refine below_set ?_ GE541.out | refine below_set ?_ GE542.out) | exact HB.out)) hb); clear BK540; clear BK541; clear BK542; clear HB; have BK540 := n0_; have BK541 := n1_; have BK542 := n2_; have HB := n3_; clear n0_ n1_ n2_ n3_; (try clear hb); (try clear hb2); (try clear hk); (try clear hi); have hcz74_0 : w73.cell? ⟨gb540, 0, none⟩ = some (.bool a0_0) := (blk_cell BK540.out 0).trans rfl; have hcz74_1 : w73.cell? ⟨gb540, 1, none⟩ = some (.int .i64 a0_1) := (blk_cell BK540.out 1).trans rfl; have hcz74_2 : w73.cell? ⟨gb540, 2, none⟩ = some (.int .i64 a0_2) := (blk_cell BK540.out 2).trans rfl; have hcz74_3 : w73.cell? ⟨gb540, 3, none⟩ = some (.int .i64 a0_3) := (blk_cell BK540.out 3).trans rfl; have hcz74_4 : w73.cell? ⟨gb540, 4, none⟩ = some (.int .i64 a0_4) := (blk_cell BK540.out 4).trans rfl; have hcz74_5 : w73.cell? ⟨gb540, 5, none⟩ = some (.int .i64 a0_5) := (blk_cell BK540.out 5).trans rfl; have hcz74_6 : w73.cell? ⟨gb540, 6, none⟩ = some (.int .i64 a0_6) := (blk_cell BK540.out 6).trans rfl; have hfz74_0 := blk_frozen BK540.out 0; have hfz74_1 := blk_frozen BK540.out 1; have hfz74_2 := blk_frozen BK540.out 2; have hfz74_3 := blk_frozen BK540.out 3; have hfz74_4 := blk_frozen BK540.out 4; have hfz74_5 := blk_frozen BK540.out 5; have hfz74_6 := blk_frozen BK540.out 6) | (go_at_call 21; (with_reducible refine (slotmeshref09_Root.calls a0_0 a0_1 a0_2 a0_3 a0_4 a0_5 a0_6 true _ A65.out).mono ?_); rintro e w75 ⟨rfl, hb⟩; have n0_ := Aside0.mk (blk_below (g := gb540) (o := .cells #[.bool a0_0, .int .i64 a0_1, .int .i64 a0_2, .int .i64 a0_3, .int .i64 a0_4, .int .i64 a0_5, .int .i64 a0_6] 25 (0, 0)) (by (with_reducible repeat (first | refine blk_drewN ?_ _ | refine blk_drew ?_ | refine blk_alloc ?_ _)); exact BK540.out) hb); have n1_ := Aside0.mk (blk_below (g := gb541) (o := .cells #[.int .i64 a1_0, .int .i64 a1_1] 47 (0, 0)) (by (with_reducible repeat (first | refine blk_drewN ?_ _ | refine blk_drew ?_ | refine blk_alloc ?_ _)); exact BK541.out) hb); have n2_ := Aside0.mk (blk_below (g := gb542) (o := .cells #[.int .i64 a2_0, .int .i64 a2_1, .int .i64 a2_2, .int .i64 (wrap64 (Int.tdiv (wrap64 (a3 + a4)) 10000)), .int .i64 t544] 27 (0, 0)) (by (with_reducible repeat (first | refine blk_drewN ?_ _ | refine blk_drew ?_ | refine blk_alloc ?_ _)); exact BK542.out) hb); have n3_ := Aside0.mk (below_step (by repeat (first | (with_reducible first | exact HB.out | apply below_alloc | apply pw_below_drewN | apply below_drew1 | refine below_set ?_ GE540.out | refine below_set ?_ GE541.out | refine below_set ?_ GE542.out) | exact HB.out)) hb); clear BK540; clear BK541; clear BK542; clear HB; have BK540 := n0_; have BK541 := n1_; have BK542 := n2_; have HB := n3_; clear n0_ n1_ n2_ n3_; (try clear hb); (try clear hb2); (try clear hk); (try clear hi)))
                    go_meet
                    case rel => exact ⟨_, (true), (by first | rfl | (simp; done) | (simp [*]; done)), H', ⟨by have := HJ7.out; first | omega | exact Nat.le_refl _⟩, ⟨by (with_reducible repeat (first | refine blk_drewN ?_ _ | refine blk_drew ?_ | refine blk_alloc ?_ _)); exact BK540.out⟩, ⟨by (with_reducible repeat (first | refine blk_drewN ?_ _ | refine blk_drew ?_ | refine blk_alloc ?_ _)); exact BK541.out⟩, ⟨by (with_reducible repeat (first | refine blk_drewN ?_ _ | refine blk_drew ?_ | refine blk_alloc ?_ _)); exact BK542.out⟩, ⟨by repeat (first | (with_reducible first | exact HB.out | apply below_alloc | apply pw_below_drewN | apply below_drew1 | refine below_set ?_ GE540.out | refine below_set ?_ GE541.out | refine below_set ?_ GE542.out) | exact HB.out)⟩⟩
                  · replace c66 := Bool.eq_false_iff.mpr c66
                    subst c66
                    have H1 : (if a0_0 = true then ((slotmeshlaw09_holds.f a0_0 a0_1 a0_2 a0_3 a0_4 a0_5 a0_6 a1_0 a1_1 a3).bind fun t549 => (slotmeshlaw09_TimesyncTruth.j1 kj7 t543 (wrap64 ((wrap64 ((wrap64 (Int.tdiv (wrap64 (a3 + a4)) 10000)) * 10000)) + a5)) (!t549) a0_0 a0_1 a0_2 a0_3 a0_4 a0_5 a0_6 a1_0 a1_1 a2_0 a2_1 a2_2 (wrap64 (Int.tdiv (wrap64 (a3 + a4)) 10000)) t544)) else (slotmeshlaw09_TimesyncTruth.j1 kj7 t543 (wrap64 ((wrap64 ((wrap64 (Int.tdiv (wrap64 (a3 + a4)) 10000)) * 10000)) + a5)) false a0_0 a0_1 a0_2 a0_3 a0_4 a0_5 a0_6 a1_0 a1_1 a2_0 a2_1 a2_2 (wrap64 (Int.tdiv (wrap64 (a3 + a4)) 10000)) t544)) = some r := by rw [if_neg (show ¬ (false = true) by decide)] at H; exact H
                    clear H
                    have H := H1
                    clear H1
                    by_cases c76 : a0_0 = true
                    · subst c76
                      have H1 : ((slotmeshlaw09_holds.f true a0_1 a0_2 a0_3 a0_4 a0_5 a0_6 a1_0 a1_1 a3).bind fun t549 => (slotmeshlaw09_TimesyncTruth.j1 kj7 t543 (wrap64 ((wrap64 ((wrap64 (Int.tdiv (wrap64 (a3 + a4)) 10000)) * 10000)) + a5)) (!t549) true a0_1 a0_2 a0_3 a0_4 a0_5 a0_6 a1_0 a1_1 a2_0 a2_1 a2_2 (wrap64 (Int.tdiv (wrap64 (a3 + a4)) 10000)) t544)) = some r := by rw [if_pos rfl] at H; exact H
                      clear H
                      have H := H1
                      clear H1
                      replace H := Option.bind_eq_some_iff.mp H
                      obtain ⟨t549, A770, H⟩ := H
                      replace H : (slotmeshlaw09_TimesyncTruth.j1 kj7 t543 (wrap64 ((wrap64 ((wrap64 (Int.tdiv (wrap64 (a3 + a4)) 10000)) * 10000)) + a5)) (!t549) true a0_1 a0_2 a0_3 a0_4 a0_5 a0_6 a1_0 a1_1 a2_0 a2_1 a2_2 (wrap64 (Int.tdiv (wrap64 (a3 + a4)) 10000)) t544) = some r := H
                      have A77 := Aside0.mk A770
                      clear A770
                      have H' := Aside0.mk H
                      clear H
                      have hnb78 := NB540_541.out
                      have hnc78 := NB541_540.out
                      have hnb79 := NB540_542.out
                      have hnc79 := NB542_540.out
                      have hcz80_0 : w57.cell? ⟨gb540, 0, none⟩ = some (.bool true) := (blk_cell BK540.out 0).trans rfl
                      have hcz80_1 : w57.cell? ⟨gb540, 1, none⟩ = some (.int .i64 a0_1) := (blk_cell BK540.out 1).trans rfl
                      have hcz80_2 : w57.cell? ⟨gb540, 2, none⟩ = some (.int .i64 a0_2) := (blk_cell BK540.out 2).trans rfl
                      have hcz80_3 : w57.cell? ⟨gb540, 3, none⟩ = some (.int .i64 a0_3) := (blk_cell BK540.out 3).trans rfl
                      have hcz80_4 : w57.cell? ⟨gb540, 4, none⟩ = some (.int .i64 a0_4) := (blk_cell BK540.out 4).trans rfl
                      have hcz80_5 : w57.cell? ⟨gb540, 5, none⟩ = some (.int .i64 a0_5) := (blk_cell BK540.out 5).trans rfl
                      have hcz80_6 : w57.cell? ⟨gb540, 6, none⟩ = some (.int .i64 a0_6) := (blk_cell BK540.out 6).trans rfl
                      have hfz80_0 := blk_frozen BK540.out 0
                      have hfz80_1 := blk_frozen BK540.out 1
                      have hfz80_2 := blk_frozen BK540.out 2
                      have hfz80_3 := blk_frozen BK540.out 3
                      have hfz80_4 := blk_frozen BK540.out 4
                      have hfz80_5 := blk_frozen BK540.out 5
                      have hfz80_6 := blk_frozen BK540.out 6
                      go_wp2_with (first | (go_at_call 20; (with_reducible refine (slotmeshref09_Valid.calls kj7 true a0_1 a0_2 a0_3 a0_4 a0_5 a0_6 true _ A61.out).mono ?_); rintro e w81 ⟨rfl, hb⟩; have n0_ := Aside0.mk (blk_below (g := gb540) (o := .cells #[.bool true, .int .i64 a0_1, .int .i64 a0_2, .int .i64 a0_3, .int .i64 a0_4, .int .i64 a0_5, .int .i64 a0_6] 25 (0, 0)) (by (with_reducible repeat (first | refine blk_drewN ?_ _ | refine blk_drew ?_ | refine blk_alloc ?_ _)); refine blk_far ?_ NB540_542.out _; (with_reducible repeat (first | refine blk_drewN ?_ _ | refine blk_drew ?_ | refine blk_alloc ?_ _)); exact BK540.out) hb); have n1_ := Aside0.mk (blk_below (g := gb541) (o := .cells #[.int .i64 a1_0, .int .i64 a1_1] 47 (0, 0)) (by (with_reducible repeat (first | refine blk_drewN ?_ _ | refine blk_drew ?_ | refine blk_alloc ?_ _)); refine blk_far ?_ NB541_542.out _; (with_reducible repeat (first | refine blk_drewN ?_ _ | refine blk_drew ?_ | refine blk_alloc ?_ _)); exact BK541.out) hb); have n2_ := Aside0.mk (blk_below (g := gb542) (o := .cells #[.int .i64 a2_0, .int .i64 a2_1, .int .i64 a2_2, .int .i64 (wrap64 (Int.tdiv (wrap64 (a3 + a4)) 10000)), .int .i64 t544] 27 (0, 0)) (by (with_reducible repeat (first | refine blk_drewN ?_ _ | refine blk_drew ?_ | refine blk_alloc ?_ _)); refine blk_put (cs := #[.int .i64 a2_0, .int .i64 a2_1, .int .i64 a2_2, .int .i64 (wrap64 (Int.tdiv (wrap64 (a3 + a4)) 10000)), .int .i64 0]) ?_ 4 _ rfl; (with_reducible repeat (first | refine blk_drewN ?_ _ | refine blk_drew ?_ | refine blk_alloc ?_ _)); exact BK542.out) hb); have n3_ := Aside0.mk (below_step (by repeat (first | (with_reducible first | exact HB.out | apply below_alloc | apply pw_below_drewN | apply below_drew1 | refine below_set ?_ GE540.out | refine below_set ?_ GE541.out | refine below_set ?_ GE542.out) | exact HB.out)) hb); clear BK540; clear BK541; clear BK542; clear HB; have BK540 := n0_; have BK541 := n1_; have BK542 := n2_; have HB := n3_; clear n0_ n1_ n2_ n3_; (try clear hb); (try clear hb2); (try clear hk); (try clear hi); have hnb82 := NB542_541.out; have hnc82 := NB541_542.out; have hcz83_0 : w81.cell? ⟨gb542, 0, none⟩ = some (.int .i64 a2_0) := (blk_cell BK542.out 0).trans rfl; have hcz83_1 : w81.cell? ⟨gb542, 1, none⟩ = some (.int .i64 a2_1) := (blk_cell BK542.out 1).trans rfl; have hcz83_2 : w81.cell? ⟨gb542, 2, none⟩ = some (.int .i64 a2_2) := (blk_cell BK542.out 2).trans rfl; have hcz83_3 : w81.cell? ⟨gb542, 3, none⟩ = some (.int .i64 (wrap64 (Int.tdiv (wrap64 (a3 + a4)) 10000))) := (blk_cell BK542.out 3).trans rfl; have hcz83_4 : w81.cell? ⟨gb542, 4, none⟩ = some (.int .i64 t544) := (blk_cell BK542.out 4).trans rfl; have hfz83_0 := blk_frozen BK542.out 0; have hfz83_1 := blk_frozen BK542.out 1; have hfz83_2 := blk_frozen BK542.out 2; have hfz83_3 := blk_frozen BK542.out 3; have hfz83_4 := blk_frozen BK542.out 4) | (go_at_call 25; (with_reducible refine (slotmeshref09_Hint.calls a2_0 a2_1 a2_2 (wrap64 (Int.tdiv (wrap64 (a3 + a4)) 10000)) t544 true _ A63.out).mono ?_); rintro e w84 ⟨rfl, hb⟩; have n0_ := Aside0.mk (blk_below (g := gb540) (o := .cells #[.bool true, .int .i64 a0_1, .int .i64 a0_2, .int .i64 a0_3, .int .i64 a0_4, .int .i64 a0_5, .int .i64 a0_6] 25 (0, 0)) (by (with_reducible repeat (first | refine blk_drewN ?_ _ | refine blk_drew ?_ | refine blk_alloc ?_ _)); exact BK540.out) hb); have n1_ := Aside0.mk (blk_below (g := gb541) (o := .cells #[.int .i64 a1_0, .int .i64 a1_1] 47 (0, 0)) (by (with_reducible repeat (first | refine blk_drewN ?_ _ | refine blk_drew ?_ | refine blk_alloc ?_ _)); exact BK541.out) hb); have n2_ := Aside0.mk (blk_below (g := gb542) (o := .cells #[.int .i64 a2_0, .int .i64 a2_1, .int .i64 a2_2, .int .i64 (wrap64 (Int.tdiv (wrap64 (a3 + a4)) 10000)), .int .i64 t544] 27 (0, 0)) (by (with_reducible repeat (first | refine blk_drewN ?_ _ | refine blk_drew ?_ | refine blk_alloc ?_ _)); exact BK542.out) hb); have n3_ := Aside0.mk (below_step (by repeat (first | (with_reducible first | exact HB.out | apply below_alloc | apply pw_below_drewN | apply below_drew1 | refine below_set ?_ GE540.out | refine below_set ?_ GE541.out | refine below_set ?_ GE542.out) | exact HB.out)) hb); clear BK540; clear BK541; clear BK542; clear HB; have BK540 := n0_; have BK541 := n1_; have BK542 := n2_; have HB := n3_; clear n0_ n1_ n2_ n3_; (try clear hb); (try clear hb2); (try clear hk); (try clear hi); have hcz85_0 : w84.cell? ⟨gb540, 0, none⟩ = some (.bool true) := (blk_cell BK540.out 0).trans rfl; have hcz85_1 : w84.cell? ⟨gb540, 1, none⟩ = some (.int .i64 a0_1) := (blk_cell BK540.out 1).trans rfl; have hcz85_2 : w84.cell? ⟨gb540, 2, none⟩ = some (.int .i64 a0_2) := (blk_cell BK540.out 2).trans rfl; have hcz85_3 : w84.cell? ⟨gb540, 3, none⟩ = some (.int .i64 a0_3) := (blk_cell BK540.out 3).trans rfl; have hcz85_4 : w84.cell? ⟨gb540, 4, none⟩ = some (.int .i64 a0_4) := (blk_cell BK540.out 4).trans rfl; have hcz85_5 : w84.cell? ⟨gb540, 5, none⟩ = some (.int .i64 a0_5) := (blk_cell BK540.out 5).trans rfl; have hcz85_6 : w84.cell? ⟨gb540, 6, none⟩ = some (.int .i64 a0_6) := (blk_cell BK540.out 6).trans rfl; have hfz85_0 := blk_frozen BK540.out 0; have hfz85_1 := blk_frozen BK540.out 1; have hfz85_2 := blk_frozen BK540.out 2; have hfz85_3 := blk_frozen BK540.out 3; have hfz85_4 := blk_frozen BK540.out 4; have hfz85_5 := blk_frozen BK540.out 5; have hfz85_6 := blk_frozen BK540.out 6) | (go_at_call 21; (with_reducible refine (slotmeshref09_Root.calls true a0_1 a0_2 a0_3 a0_4 a0_5 a0_6 false _ A65.out).mono ?_); rintro e w86 ⟨rfl, hb⟩; have n0_ := Aside0.mk (blk_below (g := gb540) (o := .cells #[.bool true, .int .i64 a0_1, .int .i64 a0_2, .int .i64 a0_3, .int .i64 a0_4, .int .i64 a0_5, .int .i64 a0_6] 25 (0, 0)) (by (with_reducible repeat (first | refine blk_drewN ?_ _ | refine blk_drew ?_ | refine blk_alloc ?_ _)); exact BK540.out) hb); have n1_ := Aside0.mk (blk_below (g := gb541) (o := .cells #[.int .i64 a1_0, .int .i64 a1_1] 47 (0, 0)) (by (with_reducible repeat (first | refine blk_drewN ?_ _ | refine blk_drew ?_ | refine blk_alloc ?_ _)); exact BK541.out) hb); have n2_ := Aside0.mk (blk_below (g := gb542) (o := .cells #[.int .i64 a2_0, .int .i64 a2_1, .int .i64 a2_2, .int .i64 (wrap64 (Int.tdiv (wrap64 (a3 + a4)) 10000)), .int .i64 t544] 27 (0, 0)) (by (with_reducible repeat (first | refine blk_drewN ?_ _ | refine blk_drew ?_ | refine blk_alloc ?_ _)); exact BK542.out) hb); have n3_ := Aside0.mk (below_step (by repeat (first | (with_reducible first | exact HB.out | apply below_alloc | apply pw_below_drewN | apply below_drew1 | refine below_set ?_ GE540.out | refine below_set ?_ GE541.out | refine below_set ?_ GE542.out) | exact HB.out)) hb); clear BK540; clear BK541; clear BK542; clear HB; have BK540 := n0_; have BK541 := n1_; have BK542 := n2_; have HB := n3_; clear n0_ n1_ n2_ n3_; (try clear hb); (try clear hb2); (try clear hk); (try clear hi); have hcz87_0 : w86.cell? ⟨gb540, 0, none⟩ = some (.bool true) := (blk_cell BK540.out 0).trans rfl; have hcz87_1 : w86.cell? ⟨gb540, 1, none⟩ = some (.int .i64 a0_1) := (blk_cell BK540.out 1).trans rfl; have hcz87_2 : w86.cell? ⟨gb540, 2, none⟩ = some (.int .i64 a0_2) := (blk_cell BK540.out 2).trans rfl; have hcz87_3 : w86.cell? ⟨gb540, 3, none⟩ = some (.int .i64 a0_3) := (blk_cell BK540.out 3).trans rfl; have hcz87_4 : w86.cell? ⟨gb540, 4, none⟩ = some (.int .i64 a0_4) := (blk_cell BK540.out 4).trans rfl; have hcz87_5 : w86.cell? ⟨gb540, 5, none⟩ = some (.int .i64 a0_5) := (blk_cell BK540.out 5).trans rfl; have hcz87_6 : w86.cell? ⟨gb540, 6, none⟩ = some (.int .i64 a0_6) := (blk_cell BK540.out 6).trans rfl; have hfz87_0 := blk_frozen BK540.out 0; have hfz87_1 := blk_frozen BK540.out 1; have hfz87_2 := blk_frozen BK540.out 2; have hfz87_3 := blk_frozen BK540.out 3; have hfz87_4 := blk_frozen BK540.out 4; have hfz87_5 := blk_frozen BK540.out 5; have hfz87_6 := blk_frozen BK540.out 6; have hcz88_0 : w86.cell? ⟨gb541, 0, none⟩ = some (.int .i64 a1_0) := (blk_cell BK541.out 0).trans rfl; have hcz88_1 : w86.cell? ⟨gb541, 1, none⟩ = some (.int .i64 a1_1) := (blk_cell BK541.out 1).trans rfl; have hfz88_0 := blk_frozen BK541.out 0; have hfz88_1 := blk_frozen BK541.out 1) | (go_at_call 26; (with_reducible refine (slotmeshlaw09_holds.calls true a0_1 a0_2 a0_3 a0_4 a0_5 a0_6 a1_0 a1_1 a3 t549 _ A77.out).mono ?_); rintro e w89 ⟨rfl, hb⟩; have n0_ := Aside0.mk (blk_below (g := gb540) (o := .cells #[.bool true, .int .i64 a0_1, .int .i64 a0_2, .int .i64 a0_3, .int .i64 a0_4, .int .i64 a0_5, .int .i64 a0_6] 25 (0, 0)) (by (with_reducible repeat (first | refine blk_drewN ?_ _ | refine blk_drew ?_ | refine blk_alloc ?_ _)); exact BK540.out) hb); have n1_ := Aside0.mk (blk_below (g := gb541) (o := .cells #[.int .i64 a1_0, .int .i64 a1_1] 47 (0, 0)) (by (with_reducible repeat (first | refine blk_drewN ?_ _ | refine blk_drew ?_ | refine blk_alloc ?_ _)); exact BK541.out) hb); have n2_ := Aside0.mk (blk_below (g := gb542) (o := .cells #[.int .i64 a2_0, .int .i64 a2_1, .int .i64 a2_2, .int .i64 (wrap64 (Int.tdiv (wrap64 (a3 + a4)) 10000)), .int .i64 t544] 27 (0, 0)) (by (with_reducible repeat (first | refine blk_drewN ?_ _ | refine blk_drew ?_ | refine blk_alloc ?_ _)); exact BK542.out) hb); have n3_ := Aside0.mk (below_step (by repeat (first | (with_reducible first | exact HB.out | apply below_alloc | apply pw_below_drewN | apply below_drew1 | refine below_set ?_ GE540.out | refine below_set ?_ GE541.out | refine below_set ?_ GE542.out) | exact HB.out)) hb); clear BK540; clear BK541; clear BK542; clear HB; have BK540 := n0_; have BK541 := n1_; have BK542 := n2_; have HB := n3_; clear n0_ n1_ n2_ n3_; (try clear hb); (try clear hb2); (try clear hk); (try clear hi)))
                      go_meet
                      case rel => exact ⟨_, (!t549), (by first | rfl | (simp; done) | (simp [*]; done)), H', ⟨by have := HJ7.out; first | omega | exact Nat.le_refl _⟩, ⟨by (with_reducible repeat (first | refine blk_drewN ?_ _ | refine blk_drew ?_ | refine blk_alloc ?_ _)); exact BK540.out⟩, ⟨by (with_reducible repeat (first | refine blk_drewN ?_ _ | refine blk_drew ?_ | refine blk_alloc ?_ _)); exact BK541.out⟩, ⟨by (with_reducible repeat (first | refine blk_drewN ?_ _ | refine blk_drew ?_ | refine blk_alloc ?_ _)); exact BK542.out⟩, ⟨by repeat (first | (with_reducible first | exact HB.out | apply below_alloc | apply pw_below_drewN | apply below_drew1 | refine below_set ?_ GE540.out | refine below_set ?_ GE541.out | refine below_set ?_ GE542.out) | exact HB.out)⟩⟩
                    · replace c76 := Bool.eq_false_iff.mpr c76
                      subst c76
                      have H1 : (slotmeshlaw09_TimesyncTruth.j1 kj7 t543 (wrap64 ((wrap64 ((wrap64 (Int.tdiv (wrap64 (a3 + a4)) 10000)) * 10000)) + a5)) false false a0_1 a0_2 a0_3 a0_4 a0_5 a0_6 a1_0 a1_1 a2_0 a2_1 a2_2 (wrap64 (Int.tdiv (wrap64 (a3 + a4)) 10000)) t544) = some r := by rw [if_neg (show ¬ (false = true) by decide)] at H; exact H
                      clear H
                      have H := H1
                      clear H1
                      have H' := Aside0.mk H
                      clear H
                      have hnb90 := NB540_541.out
                      have hnc90 := NB541_540.out
                      have hnb91 := NB540_542.out
                      have hnc91 := NB542_540.out
                      have hcz92_0 : w57.cell? ⟨gb540, 0, none⟩ = some (.bool false) := (blk_cell BK540.out 0).trans rfl
                      have hcz92_1 : w57.cell? ⟨gb540, 1, none⟩ = some (.int .i64 a0_1) := (blk_cell BK540.out 1).trans rfl
                      have hcz92_2 : w57.cell? ⟨gb540, 2, none⟩ = some (.int .i64 a0_2) := (blk_cell BK540.out 2).trans rfl
                      have hcz92_3 : w57.cell? ⟨gb540, 3, none⟩ = some (.int .i64 a0_3) := (blk_cell BK540.out 3).trans rfl
                      have hcz92_4 : w57.cell? ⟨gb540, 4, none⟩ = some (.int .i64 a0_4) := (blk_cell BK540.out 4).trans rfl
                      have hcz92_5 : w57.cell? ⟨gb540, 5, none⟩ = some (.int .i64 a0_5) := (blk_cell BK540.out 5).trans rfl
                      have hcz92_6 : w57.cell? ⟨gb540, 6, none⟩ = some (.int .i64 a0_6) := (blk_cell BK540.out 6).trans rfl
                      have hfz92_0 := blk_frozen BK540.out 0
                      have hfz92_1 := blk_frozen BK540.out 1
                      have hfz92_2 := blk_frozen BK540.out 2
                      have hfz92_3 := blk_frozen BK540.out 3
                      have hfz92_4 := blk_frozen BK540.out 4
                      have hfz92_5 := blk_frozen BK540.out 5
                      have hfz92_6 := blk_frozen BK540.out 6
                      go_wp2_with (first | (go_at_call 20; (with_reducible refine (slotmeshref09_Valid.calls kj7 false a0_1 a0_2 a0_3 a0_4 a0_5 a0_6 true _ A61.out).mono ?_); rintro e w93 ⟨rfl, hb⟩; have n0_ := Aside0.mk (blk_below (g := gb540) (o := .cells #[.bool false, .int .i64 a0_1, .int .i64 a0_2, .int .i64 a0_3, .int .i64 a0_4, .int .i64 a0_5, .int .i64 a0_6] 25 (0, 0)) (by (with_reducible repeat (first | refine blk_drewN ?_ _ | refine blk_drew ?_ | refine blk_alloc ?_ _)); refine blk_far ?_ NB540_542.out _; (with_reducible repeat (first | refine blk_drewN ?_ _ | refine blk_drew ?_ | refine blk_alloc ?_ _)); exact BK540.out) hb); have n1_ := Aside0.mk (blk_below (g := gb541) (o := .cells #[.int .i64 a1_0, .int .i64 a1_1] 47 (0, 0)) (by (with_reducible repeat (first | refine blk_drewN ?_ _ | refine blk_drew ?_ | refine blk_alloc ?_ _)); refine blk_far ?_ NB541_542.out _; (with_reducible repeat (first | refine blk_drewN ?_ _ | refine blk_drew ?_ | refine blk_alloc ?_ _)); exact BK541.out) hb); have n2_ := Aside0.mk (blk_below (g := gb542) (o := .cells #[.int .i64 a2_0, .int .i64 a2_1, .int .i64 a2_2, .int .i64 (wrap64 (Int.tdiv (wrap64 (a3 + a4)) 10000)), .int .i64 t544] 27 (0, 0)) (by (with_reducible repeat (first | refine blk_drewN ?_ _ | refine blk_drew ?_ | refine blk_alloc ?_ _)); refine blk_put (cs := #[.int .i64 a2_0, .int .i64 a2_1, .int .i64 a2_2, .int .i64 (wrap64 (Int.tdiv (wrap64 (a3 + a4)) 10000)), .int .i64 0]) ?_ 4 _ rfl; (with_reducible repeat (first | refine blk_drewN ?_ _ | refine blk_drew ?_ | refine blk_alloc ?_ _)); exact BK542.out) hb); have n3_ := Aside0.mk (below_step (by repeat (first | (with_reducible first | exact HB.out | apply below_alloc | apply pw_below_drewN | apply below_drew1 | refine below_set ?_ GE540.out | refine below_set ?_ GE541.out | refine below_set ?_ GE542.out) | exact HB.out)) hb); clear BK540; clear BK541; clear BK542; clear HB; have BK540 := n0_; have BK541 := n1_; have BK542 := n2_; have HB := n3_; clear n0_ n1_ n2_ n3_; (try clear hb); (try clear hb2); (try clear hk); (try clear hi); have hnb94 := NB542_541.out; have hnc94 := NB541_542.out; have hcz95_0 : w93.cell? ⟨gb542, 0, none⟩ = some (.int .i64 a2_0) := (blk_cell BK542.out 0).trans rfl; have hcz95_1 : w93.cell? ⟨gb542, 1, none⟩ = some (.int .i64 a2_1) := (blk_cell BK542.out 1).trans rfl; have hcz95_2 : w93.cell? ⟨gb542, 2, none⟩ = some (.int .i64 a2_2) := (blk_cell BK542.out 2).trans rfl; have hcz95_3 : w93.cell? ⟨gb542, 3, none⟩ = some (.int .i64 (wrap64 (Int.tdiv (wrap64 (a3 + a4)) 10000))) := (blk_cell BK542.out 3).trans rfl; have hcz95_4 : w93.cell? ⟨gb542, 4, none⟩ = some (.int .i64 t544) := (blk_cell BK542.out 4).trans rfl; have hfz95_0 := blk_frozen BK542.out 0; have hfz95_1 := blk_frozen BK542.out 1; have hfz95_2 := blk_frozen BK542.out 2; have hfz95_3 := blk_frozen BK542.out 3; have hfz95_4 := blk_frozen BK542.out 4) | (go_at_call 25; (with_reducible refine (slotmeshref09_Hint.calls a2_0 a2_1 a2_2 (wrap64 (Int.tdiv (wrap64 (a3 + a4)) 10000)) t544 true _ A63.out).mono ?_); rintro e w96 ⟨rfl, hb⟩; have n0_ := Aside0.mk (blk_below (g := gb540) (o := .cells #[.bool false, .int .i64 a0_1, .int .i64 a0_2, .int .i64 a0_3, .int .i64 a0_4, .int .i64 a0_5, .int .i64 a0_6] 25 (0, 0)) (by (with_reducible repeat (first | refine blk_drewN ?_ _ | refine blk_drew ?_ | refine blk_alloc ?_ _)); exact BK540.out) hb); have n1_ := Aside0.mk (blk_below (g := gb541) (o := .cells #[.int .i64 a1_0, .int .i64 a1_1] 47 (0, 0)) (by (with_reducible repeat (first | refine blk_drewN ?_ _ | refine blk_drew ?_ | refine blk_alloc ?_ _)); exact BK541.out) hb); have n2_ := Aside0.mk (blk_below (g := gb542) (o := .cells #[.int .i64 a2_0, .int .i64 a2_1, .int .i64 a2_2, .int .i64 (wrap64 (Int.tdiv (wrap64 (a3 + a4)) 10000)), .int .i64 t544] 27 (0, 0)) (by (with_reducible repeat (first | refine blk_drewN ?_ _ | refine blk_drew ?_ | refine blk_alloc ?_ _)); exact BK542.out) hb); have n3_ := Aside0.mk (below_step (by repeat (first | (with_reducible first | exact HB.out | apply below_alloc | apply pw_below_drewN | apply below_drew1 | refine below_set ?_ GE540.out | refine below_set ?_ GE541.out | refine below_set ?_ GE542.out) | exact HB.out)) hb); clear BK540; clear BK541; clear BK542; clear HB; have BK540 := n0_; have BK541 := n1_; have BK542 := n2_; have HB := n3_; clear n0_ n1_ n2_ n3_; (try clear hb); (try clear hb2); (try clear hk); (try clear hi); have hcz97_0 : w96.cell? ⟨gb540, 0, none⟩ = some (.bool false) := (blk_cell BK540.out 0).trans rfl; have hcz97_1 : w96.cell? ⟨gb540, 1, none⟩ = some (.int .i64 a0_1) := (blk_cell BK540.out 1).trans rfl; have hcz97_2 : w96.cell? ⟨gb540, 2, none⟩ = some (.int .i64 a0_2) := (blk_cell BK540.out 2).trans rfl; have hcz97_3 : w96.cell? ⟨gb540, 3, none⟩ = some (.int .i64 a0_3) := (blk_cell BK540.out 3).trans rfl; have hcz97_4 : w96.cell? ⟨gb540, 4, none⟩ = some (.int .i64 a0_4) := (blk_cell BK540.out 4).trans rfl; have hcz97_5 : w96.cell? ⟨gb540, 5, none⟩ = some (.int .i64 a0_5) := (blk_cell BK540.out 5).trans rfl; have hcz97_6 : w96.cell? ⟨gb540, 6, none⟩ = some (.int .i64 a0_6) := (blk_cell BK540.out 6).trans rfl; have hfz97_0 := blk_frozen BK540.out 0; have hfz97_1 := blk_frozen BK540.out 1; have hfz97_2 := blk_frozen BK540.out 2; have hfz97_3 := blk_frozen BK540.out 3; have hfz97_4 := blk_frozen BK540.out 4; have hfz97_5 := blk_frozen BK540.out 5; have hfz97_6 := blk_frozen BK540.out 6) | (go_at_call 21; (with_reducible refine (slotmeshref09_Root.calls false a0_1 a0_2 a0_3 a0_4 a0_5 a0_6 false _ A65.out).mono ?_); rintro e w98 ⟨rfl, hb⟩; have n0_ := Aside0.mk (blk_below (g := gb540) (o := .cells #[.bool false, .int .i64 a0_1, .int .i64 a0_2, .int .i64 a0_3, .int .i64 a0_4, .int .i64 a0_5, .int .i64 a0_6] 25 (0, 0)) (by (with_reducible repeat (first | refine blk_drewN ?_ _ | refine blk_drew ?_ | refine blk_alloc ?_ _)); exact BK540.out) hb); have n1_ := Aside0.mk (blk_below (g := gb541) (o := .cells #[.int .i64 a1_0, .int .i64 a1_1] 47 (0, 0)) (by (with_reducible repeat (first | refine blk_drewN ?_ _ | refine blk_drew ?_ | refine blk_alloc ?_ _)); exact BK541.out) hb); have n2_ := Aside0.mk (blk_below (g := gb542) (o := .cells #[.int .i64 a2_0, .int .i64 a2_1, .int .i64 a2_2, .int .i64 (wrap64 (Int.tdiv (wrap64 (a3 + a4)) 10000)), .int .i64 t544] 27 (0, 0)) (by (with_reducible repeat (first | refine blk_drewN ?_ _ | refine blk_drew ?_ | refine blk_alloc ?_ _)); exact BK542.out) hb); have n3_ := Aside0.mk (below_step (by repeat (first | (with_reducible first | exact HB.out | apply below_alloc | apply pw_below_drewN | apply below_drew1 | refine below_set ?_ GE540.out | refine below_set ?_ GE541.out | refine below_set ?_ GE542.out) | exact HB.out)) hb); clear BK540; clear BK541; clear BK542; clear HB; have BK540 := n0_; have BK541 := n1_; have BK542 := n2_; have HB := n3_; clear n0_ n1_ n2_ n3_; (try clear hb); (try clear hb2); (try clear hk); (try clear hi); have hcz99_0 : w98.cell? ⟨gb540, 0, none⟩ = some (.bool false) := (blk_cell BK540.out 0).trans rfl; have hcz99_1 : w98.cell? ⟨gb540, 1, none⟩ = some (.int .i64 a0_1) := (blk_cell BK540.out 1).trans rfl; have hcz99_2 : w98.cell? ⟨gb540, 2, none⟩ = some (.int .i64 a0_2) := (blk_cell BK540.out 2).trans rfl; have hcz99_3 : w98.cell? ⟨gb540, 3, none⟩ = some (.int .i64 a0_3) := (blk_cell BK540.out 3).trans rfl; have hcz99_4 : w98.cell? ⟨gb540, 4, none⟩ = some (.int .i64 a0_4) := (blk_cell BK540.out 4).trans rfl; have hcz99_5 : w98.cell? ⟨gb540, 5, none⟩ = some (.int .i64 a0_5) := (blk_cell BK540.out 5).trans rfl; have hcz99_6 : w98.cell? ⟨gb540, 6, none⟩ = some (.int .i64 a0_6) := (blk_cell BK540.out 6).trans rfl; have hfz99_0 := blk_frozen BK540.out 0; have hfz99_1 := blk_frozen BK540.out 1; have hfz99_2 := blk_frozen BK540.out 2; have hfz99_3 := blk_frozen BK540.out 3; have hfz99_4 := blk_frozen BK540.out 4; have hfz99_5 := blk_frozen BK540.out 5; have hfz99_6 := blk_frozen BK540.out 6))
                      go_meet
                      case rel => exact ⟨_, (false), (by first | rfl | (simp; done) | (simp [*]; done)), H', ⟨by have := HJ7.out; first | omega | exact Nat.le_refl _⟩, ⟨by (with_reducible repeat (first | refine blk_drewN ?_ _ | refine blk_drew ?_ | refine blk_alloc ?_ _)); exact BK540.out⟩, ⟨by (with_reducible repeat (first | refine blk_drewN ?_ _ | refine blk_drew ?_ | refine blk_alloc ?_ _)); exact BK541.out⟩, ⟨by (with_reducible repeat (first | refine blk_drewN ?_ _ | refine blk_drew ?_ | refine blk_alloc ?_ _)); exact BK542.out⟩, ⟨by repeat (first | (with_reducible first | exact HB.out | apply below_alloc | apply pw_below_drewN | apply below_drew1 | refine below_set ?_ GE540.out | refine below_set ?_ GE541.out | refine below_set ?_ GE542.out) | exact HB.out)⟩⟩
                · replace c64 := Bool.eq_false_iff.mpr c64
                  subst c64
                  have H1 : (slotmeshlaw09_TimesyncTruth.j1 kj7 t543 (wrap64 ((wrap64 ((wrap64 (Int.tdiv (wrap64 (a3 + a4)) 10000)) * 10000)) + a5)) true a0_0 a0_1 a0_2 a0_3 a0_4 a0_5 a0_6 a1_0 a1_1 a2_0 a2_1 a2_2 (wrap64 (Int.tdiv (wrap64 (a3 + a4)) 10000)) t544) = some r := by rw [if_neg (show ¬ (false = true) by decide)] at H; exact H
                  clear H
                  have H := H1
                  clear H1
                  have H' := Aside0.mk H
                  clear H
                  have hnb100 := NB540_541.out
                  have hnc100 := NB541_540.out
                  have hnb101 := NB540_542.out
                  have hnc101 := NB542_540.out
                  have hcz102_0 : w57.cell? ⟨gb540, 0, none⟩ = some (.bool a0_0) := (blk_cell BK540.out 0).trans rfl
                  have hcz102_1 : w57.cell? ⟨gb540, 1, none⟩ = some (.int .i64 a0_1) := (blk_cell BK540.out 1).trans rfl
                  have hcz102_2 : w57.cell? ⟨gb540, 2, none⟩ = some (.int .i64 a0_2) := (blk_cell BK540.out 2).trans rfl
                  have hcz102_3 : w57.cell? ⟨gb540, 3, none⟩ = some (.int .i64 a0_3) := (blk_cell BK540.out 3).trans rfl
                  have hcz102_4 : w57.cell? ⟨gb540, 4, none⟩ = some (.int .i64 a0_4) := (blk_cell BK540.out 4).trans rfl
                  have hcz102_5 : w57.cell? ⟨gb540, 5, none⟩ = some (.int .i64 a0_5) := (blk_cell BK540.out 5).trans rfl
                  have hcz102_6 : w57.cell? ⟨gb540, 6, none⟩ = some (.int .i64 a0_6) := (blk_cell BK540.out 6).trans rfl
                  have hfz102_0 := blk_frozen BK540.out 0
                  have hfz102_1 := blk_frozen BK540.out 1
                  have hfz102_2 := blk_frozen BK540.out 2
                  have hfz102_3 := blk_frozen BK540.out 3
                  have hfz102_4 := blk_frozen BK540.out 4
                  have hfz102_5 := blk_frozen BK540.out 5
                  have hfz102_6 := blk_frozen BK540.out 6
                  go_wp2_with (first | (go_at_call 20; (with_reducible refine (slotmeshref09_Valid.calls kj7 a0_0 a0_1 a0_2 a0_3 a0_4 a0_5 a0_6 true _ A61.out).mono ?_); rintro e w103 ⟨rfl, hb⟩; have n0_ := Aside0.mk (blk_below (g := gb540) (o := .cells #[.bool a0_0, .int .i64 a0_1, .int .i64 a0_2, .int .i64 a0_3, .int .i64 a0_4, .int .i64 a0_5, .int .i64 a0_6] 25 (0, 0)) (by (with_reducible repeat (first | refine blk_drewN ?_ _ | refine blk_drew ?_ | refine blk_alloc ?_ _)); refine blk_far ?_ NB540_542.out _; (with_reducible repeat (first | refine blk_drewN ?_ _ | refine blk_drew ?_ | refine blk_alloc ?_ _)); exact BK540.out) hb); have n1_ := Aside0.mk (blk_below (g := gb541) (o := .cells #[.int .i64 a1_0, .int .i64 a1_1] 47 (0, 0)) (by (with_reducible repeat (first | refine blk_drewN ?_ _ | refine blk_drew ?_ | refine blk_alloc ?_ _)); refine blk_far ?_ NB541_542.out _; (with_reducible repeat (first | refine blk_drewN ?_ _ | refine blk_drew ?_ | refine blk_alloc ?_ _)); exact BK541.out) hb); have n2_ := Aside0.mk (blk_below (g := gb542) (o := .cells #[.int .i64 a2_0, .int .i64 a2_1, .int .i64 a2_2, .int .i64 (wrap64 (Int.tdiv (wrap64 (a3 + a4)) 10000)), .int .i64 t544] 27 (0, 0)) (by (with_reducible repeat (first | refine blk_drewN ?_ _ | refine blk_drew ?_ | refine blk_alloc ?_ _)); refine blk_put (cs := #[.int .i64 a2_0, .int .i64 a2_1, .int .i64 a2_2, .int .i64 (wrap64 (Int.tdiv (wrap64 (a3 + a4)) 10000)), .int .i64 0]) ?_ 4 _ rfl; (with_reducible repeat (first | refine blk_drewN ?_ _ | refine blk_drew ?_ | refine blk_alloc ?_ _)); exact BK542.out) hb); have n3_ := Aside0.mk (below_step (by repeat (first | (with_reducible first | exact HB.out | apply below_alloc | apply pw_below_drewN | apply below_drew1 | refine below_set ?_ GE540.out | refine below_set ?_ GE541.out | refine below_set ?_ GE542.out) | exact HB.out)) hb); clear BK540; clear BK541; clear BK542; clear HB; have BK540 := n0_; have BK541 := n1_; have BK542 := n2_; have HB := n3_; clear n0_ n1_ n2_ n3_; (try clear hb); (try clear hb2); (try clear hk); (try clear hi); have hnb104 := NB542_541.out; have hnc104 := NB541_542.out; have hcz105_0 : w103.cell? ⟨gb542, 0, none⟩ = some (.int .i64 a2_0) := (blk_cell BK542.out 0).trans rfl; have hcz105_1 : w103.cell? ⟨gb542, 1, none⟩ = some (.int .i64 a2_1) := (blk_cell BK542.out 1).trans rfl; have hcz105_2 : w103.cell? ⟨gb542, 2, none⟩ = some (.int .i64 a2_2) := (blk_cell BK542.out 2).trans rfl; have hcz105_3 : w103.cell? ⟨gb542, 3, none⟩ = some (.int .i64 (wrap64 (Int.tdiv (wrap64 (a3 + a4)) 10000))) := (blk_cell BK542.out 3).trans rfl; have hcz105_4 : w103.cell? ⟨gb542, 4, none⟩ = some (.int .i64 t544) := (blk_cell BK542.out 4).trans rfl; have hfz105_0 := blk_frozen BK542.out 0; have hfz105_1 := blk_frozen BK542.out 1; have hfz105_2 := blk_frozen BK542.out 2; have hfz105_3 := blk_frozen BK542.out 3; have hfz105_4 := blk_frozen BK542.out 4) | (go_at_call 25; (with_reducible refine (slotmeshref09_Hint.calls a2_0 a2_1 a2_2 (wrap64 (Int.tdiv (wrap64 (a3 + a4)) 10000)) t544 false _ A63.out).mono ?_); rintro e w106 ⟨rfl, hb⟩; have n0_ := Aside0.mk (blk_below (g := gb540) (o := .cells #[.bool a0_0, .int .i64 a0_1, .int .i64 a0_2, .int .i64 a0_3, .int .i64 a0_4, .int .i64 a0_5, .int .i64 a0_6] 25 (0, 0)) (by (with_reducible repeat (first | refine blk_drewN ?_ _ | refine blk_drew ?_ | refine blk_alloc ?_ _)); exact BK540.out) hb); have n1_ := Aside0.mk (blk_below (g := gb541) (o := .cells #[.int .i64 a1_0, .int .i64 a1_1] 47 (0, 0)) (by (with_reducible repeat (first | refine blk_drewN ?_ _ | refine blk_drew ?_ | refine blk_alloc ?_ _)); exact BK541.out) hb); have n2_ := Aside0.mk (blk_below (g := gb542) (o := .cells #[.int .i64 a2_0, .int .i64 a2_1, .int .i64 a2_2, .int .i64 (wrap64 (Int.tdiv (wrap64 (a3 + a4)) 10000)), .int .i64 t544] 27 (0, 0)) (by (with_reducible repeat (first | refine blk_drewN ?_ _ | refine blk_drew ?_ | refine blk_alloc ?_ _)); exact BK542.out) hb); have n3_ := Aside0.mk (below_step (by repeat (first | (with_reducible first | exact HB.out | apply below_alloc | apply pw_below_drewN | apply below_drew1 | refine below_set ?_ GE540.out | refine below_set ?_ GE541.out | refine below_set ?_ GE542.out) | exact HB.out)) hb); clear BK540; clear BK541; clear BK542; clear HB; have BK540 := n0_; have BK541 := n1_; have BK542 := n2_; have HB := n3_; clear n0_ n1_ n2_ n3_; (try clear hb); (try clear hb2); (try clear hk); (try clear hi)))
                  go_meet
                  case rel => exact ⟨_, (true), (by first | rfl | (simp; done) | (simp [*]; done)), H', ⟨by have := HJ7.out; first | omega | exact Nat.le_refl _⟩, ⟨by (with_reducible repeat (first | refine blk_drewN ?_ _ | refine blk_drew ?_ | refine blk_alloc ?_ _)); exact BK540.out⟩, ⟨by (with_reducible repeat (first | refine blk_drewN ?_ _ | refine blk_drew ?_ | refine blk_alloc ?_ _)); exact BK541.out⟩, ⟨by (with_reducible repeat (first | refine blk_drewN ?_ _ | refine blk_drew ?_ | refine blk_alloc ?_ _)); exact BK542.out⟩, ⟨by repeat (first | (with_reducible first | exact HB.out | apply below_alloc | apply pw_below_drewN | apply below_drew1 | refine below_set ?_ GE540.out | refine below_set ?_ GE541.out | refine below_set ?_ GE542.out) | exact HB.out)⟩⟩
              · replace c62 := Bool.eq_false_iff.mpr c62
                subst c62
                have H1 : (slotmeshlaw09_TimesyncTruth.j1 kj7 t543 (wrap64 ((wrap64 ((wrap64 (Int.tdiv (wrap64 (a3 + a4)) 10000)) * 10000)) + a5)) true a0_0 a0_1 a0_2 a0_3 a0_4 a0_5 a0_6 a1_0 a1_1 a2_0 a2_1 a2_2 (wrap64 (Int.tdiv (wrap64 (a3 + a4)) 10000)) t544) = some r := by rw [if_neg (show ¬ (false = true) by decide)] at H; exact H
                clear H
                have H := H1
                clear H1
                have H' := Aside0.mk H
                clear H
                have hnb107 := NB540_541.out
                have hnc107 := NB541_540.out
                have hnb108 := NB540_542.out
                have hnc108 := NB542_540.out
                have hcz109_0 : w57.cell? ⟨gb540, 0, none⟩ = some (.bool a0_0) := (blk_cell BK540.out 0).trans rfl
                have hcz109_1 : w57.cell? ⟨gb540, 1, none⟩ = some (.int .i64 a0_1) := (blk_cell BK540.out 1).trans rfl
                have hcz109_2 : w57.cell? ⟨gb540, 2, none⟩ = some (.int .i64 a0_2) := (blk_cell BK540.out 2).trans rfl
                have hcz109_3 : w57.cell? ⟨gb540, 3, none⟩ = some (.int .i64 a0_3) := (blk_cell BK540.out 3).trans rfl
                have hcz109_4 : w57.cell? ⟨gb540, 4, none⟩ = some (.int .i64 a0_4) := (blk_cell BK540.out 4).trans rfl
                have hcz109_5 : w57.cell? ⟨gb540, 5, none⟩ = some (.int .i64 a0_5) := (blk_cell BK540.out 5).trans rfl
                have hcz109_6 : w57.cell? ⟨gb540, 6, none⟩ = some (.int .i64 a0_6) := (blk_cell BK540.out 6).trans rfl
                have hfz109_0 := blk_frozen BK540.out 0
                have hfz109_1 := blk_frozen BK540.out 1
                have hfz109_2 := blk_frozen BK540.out 2
                have hfz109_3 := blk_frozen BK540.out 3
                have hfz109_4 := blk_frozen BK540.out 4
                have hfz109_5 := blk_frozen BK540.out 5
                have hfz109_6 := blk_frozen BK540.out 6
                go_wp2_with (first | (go_at_call 20; (with_reducible refine (slotmeshref09_Valid.calls kj7 a0_0 a0_1 a0_2 a0_3 a0_4 a0_5 a0_6 false _ A61.out).mono ?_); rintro e w110 ⟨rfl, hb⟩; have n0_ := Aside0.mk (blk_below (g := gb540) (o := .cells #[.bool a0_0, .int .i64 a0_1, .int .i64 a0_2, .int .i64 a0_3, .int .i64 a0_4, .int .i64 a0_5, .int .i64 a0_6] 25 (0, 0)) (by (with_reducible repeat (first | refine blk_drewN ?_ _ | refine blk_drew ?_ | refine blk_alloc ?_ _)); refine blk_far ?_ NB540_542.out _; (with_reducible repeat (first | refine blk_drewN ?_ _ | refine blk_drew ?_ | refine blk_alloc ?_ _)); exact BK540.out) hb); have n1_ := Aside0.mk (blk_below (g := gb541) (o := .cells #[.int .i64 a1_0, .int .i64 a1_1] 47 (0, 0)) (by (with_reducible repeat (first | refine blk_drewN ?_ _ | refine blk_drew ?_ | refine blk_alloc ?_ _)); refine blk_far ?_ NB541_542.out _; (with_reducible repeat (first | refine blk_drewN ?_ _ | refine blk_drew ?_ | refine blk_alloc ?_ _)); exact BK541.out) hb); have n2_ := Aside0.mk (blk_below (g := gb542) (o := .cells #[.int .i64 a2_0, .int .i64 a2_1, .int .i64 a2_2, .int .i64 (wrap64 (Int.tdiv (wrap64 (a3 + a4)) 10000)), .int .i64 t544] 27 (0, 0)) (by (with_reducible repeat (first | refine blk_drewN ?_ _ | refine blk_drew ?_ | refine blk_alloc ?_ _)); refine blk_put (cs := #[.int .i64 a2_0, .int .i64 a2_1, .int .i64 a2_2, .int .i64 (wrap64 (Int.tdiv (wrap64 (a3 + a4)) 10000)), .int .i64 0]) ?_ 4 _ rfl; (with_reducible repeat (first | refine blk_drewN ?_ _ | refine blk_drew ?_ | refine blk_alloc ?_ _)); exact BK542.out) hb); have n3_ := Aside0.mk (below_step (by repeat (first | (with_reducible first | exact HB.out | apply below_alloc | apply pw_below_drewN | apply below_drew1 | refine below_set ?_ GE540.out | refine below_set ?_ GE541.out | refine below_set ?_ GE542.out) | exact HB.out)) hb); clear BK540; clear BK541; clear BK542; clear HB; have BK540 := n0_; have BK541 := n1_; have BK542 := n2_; have HB := n3_; clear n0_ n1_ n2_ n3_; (try clear hb); (try clear hb2); (try clear hk); (try clear hi)))
                go_meet
                case rel => exact ⟨_, (true), (by first | rfl | (simp; done) | (simp [*]; done)), H', ⟨by have := HJ7.out; first | omega | exact Nat.le_refl _⟩, ⟨by (with_reducible repeat (first | refine blk_drewN ?_ _ | refine blk_drew ?_ | refine blk_alloc ?_ _)); exact BK540.out⟩, ⟨by (with_reducible repeat (first | refine blk_drewN ?_ _ | refine blk_drew ?_ | refine blk_alloc ?_ _)); exact BK541.out⟩, ⟨by (with_reducible repeat (first | refine blk_drewN ?_ _ | refine blk_drew ?_ | refine blk_alloc ?_ _)); exact BK542.out⟩, ⟨by repeat (first | (with_reducible first | exact HB.out | apply below_alloc | apply pw_below_drewN | apply below_drew1 | refine below_set ?_ GE540.out | refine below_set ?_ GE541.out | refine below_set ?_ GE542.out) | exact HB.out)⟩⟩
          · rw [if_neg c59] at H
            have c59b0 : (t545 == 0) = false := beq_eq_false_iff_ne.mpr c59
            have c59b1 : (t545 != 0) = true := bne_iff_ne.mpr c59
            (first | rw [c59b0] | (simp only [i64_w, i32_w]; rw [c59b0]) | skip)
            have H' := Aside0.mk H
            clear H
            go_wp2
            go_meet
            case rel => exact ⟨_, (true), (by first | rfl | (simp; done) | (simp [*]; done)), H', ⟨by have := HJ7.out; first | omega | exact Nat.le_refl _⟩, ⟨by (with_reducible repeat (first | refine blk_drewN ?_ _ | refine blk_drew ?_ | refine blk_alloc ?_ _)); refine blk_far ?_ NB540_542.out _; (with_reducible repeat (first | refine blk_drewN ?_ _ | refine blk_drew ?_ | refine blk_alloc ?_ _)); exact BK540.out⟩, ⟨by (with_reducible repeat (first | refine blk_drewN ?_ _ | refine blk_drew ?_ | refine blk_alloc ?_ _)); refine blk_far ?_ NB541_542.out _; (with_reducible repeat (first | refine blk_drewN ?_ _ | refine blk_drew ?_ | refine blk_alloc ?_ _)); exact BK541.out⟩, ⟨by (with_reducible repeat (first | refine blk_drewN ?_ _ | refine blk_drew ?_ | refine blk_alloc ?_ _)); refine blk_put (cs := #[.int .i64 a2_0, .int .i64 a2_1, .int .i64 a2_2, .int .i64 (wrap64 (Int.tdiv (wrap64 (a3 + a4)) 10000)), .int .i64 0]) ?_ 4 _ rfl; (with_reducible repeat (first | refine blk_drewN ?_ _ | refine blk_drew ?_ | refine blk_alloc ?_ _)); exact BK542.out⟩, ⟨by repeat (first | (with_reducible first | exact HB.out | apply below_alloc | apply pw_below_drewN | apply below_drew1 | refine below_set ?_ GE540.out | refine below_set ?_ GE541.out | refine below_set ?_ GE542.out) | exact HB.out)⟩⟩
        case rest =>
          clear HC51
          try clear c1
          try clear c2
          try clear p2
          try clear c3
          try clear c4
          try clear c5
          try clear c6
          try clear p6
          try clear c7
          try clear c8
          try clear c9
          try clear c10
          try clear c11
          try clear c13
          try clear c14
          try clear c16
          try clear c16b0
          try clear c17
          try clear c17b0
          try clear c18
          try clear c18b0
          try clear c19
          try clear c20
          try clear c22
          try clear c22b0
          try clear c23
          try clear c24
          try clear c26
          try clear c26b0
          try clear c27
          try clear c28
          try clear c30
          try clear c30b0
          try clear c31
          try clear c32
          try clear c34
          try clear c34b0
          try clear c35
          try clear c36
          try clear c38
          try clear c38b0
          try clear c39
          try clear c40
          try clear c42
          try clear c42b0
          try clear c43
          try clear c44
          try clear c46
          try clear c47
          try clear c49
          try clear c52
          try clear c53
          try clear c55
          try clear c59
          try clear c59b0
          try clear c59b1
          try clear c60
          try clear c60b0
          try clear c62
          try clear c64
          try clear p64
          try clear c66
          try clear c67
          try clear c68
          try clear c71
          try clear c76
          try clear c78
          try clear c79
          try clear c82
          try clear c90
          try clear c91
          try clear c94
          try clear c100
          try clear c101
          try clear c104
          try clear c107
          try clear c108
          try clear hcz102_0
          try clear hcz102_1
          try clear hcz102_2
          try clear hcz102_3
          try clear hcz102_4
          try clear hcz102_5
          try clear hcz102_6
          try clear hcz105_0
          try clear hcz105_1
          try clear hcz105_2
          try clear hcz105_3
          try clear hcz105_4
          try clear hcz109_0
          try clear hcz109_1
          try clear hcz109_2
          try clear hcz109_3
          try clear hcz109_4
          try clear hcz109_5
          try clear hcz109_6
          try clear hcz15_0
          try clear hcz15_1
          try clear hcz15_2
          try clear hcz15_3
          try clear hcz15_4
          try clear hcz21_0
          try clear hcz21_1
          try clear hcz21_2
          try clear hcz21_3
          try clear hcz21_4
          try clear hcz25_0
          try clear hcz25_1
          try clear hcz25_2
          try clear hcz25_3
          try clear hcz25_4
          try clear hcz29_0
          try clear hcz29_1
          try clear hcz29_2
          try clear hcz29_3
          try clear hcz29_4
          try clear hcz33_0
          try clear hcz33_1
          try clear hcz33_2
          try clear hcz33_3
          try clear hcz33_4
          try clear hcz37_0
          try clear hcz37_1
          try clear hcz37_2
          try clear hcz37_3
          try clear hcz37_4
          try clear hcz41_0
          try clear hcz41_1
          try clear hcz41_2
          try clear hcz41_3
          try clear hcz41_4
          try clear hcz45_0
          try clear hcz45_1
          try clear hcz45_2
          try clear hcz45_3
          try clear hcz45_4
          try clear hcz48_0
          try clear hcz48_1
          try clear hcz48_2
          try clear hcz48_3
          try clear hcz48_4
          try clear hcz54_0
          try clear hcz54_1
          try clear hcz54_2
          try clear hcz54_3
          try clear hcz54_4
          try clear hcz56_0
          try clear hcz56_1
          try clear hcz58_0
          try clear hcz58_1
          try clear hcz58_2
          try clear hcz58_3
          try clear hcz58_4
          try clear hcz69_0
          try clear hcz69_1
          try clear hcz69_2
          try clear hcz69_3
          try clear hcz69_4
          try clear hcz69_5
          try clear hcz69_6
          try clear hcz72_0
          try clear hcz72_1
          try clear hcz72_2
          try clear hcz72_3
          try clear hcz72_4
          try clear hcz74_0
          try clear hcz74_1
          try clear hcz74_2
          try clear hcz74_3
          try clear hcz74_4
          try clear hcz74_5
          try clear hcz74_6
          try clear hcz80_0
          try clear hcz80_1
          try clear hcz80_2
          try clear hcz80_3
          try clear hcz80_4
          try clear hcz80_5
          try clear hcz80_6
          try clear hcz83_0
          try clear hcz83_1
          try clear hcz83_2
          try clear hcz83_3
          try clear hcz83_4
          try clear hcz85_0
          try clear hcz85_1
          try clear hcz85_2
          try clear hcz85_3
          try clear hcz85_4
          try clear hcz85_5
          try clear hcz85_6
          try clear hcz87_0
          try clear hcz87_1
          try clear hcz87_2
          try clear hcz87_3
          try clear hcz87_4
          try clear hcz87_5
          try clear hcz87_6
          try clear hcz88_0
          try clear hcz88_1
          try clear hcz92_0
          try clear hcz92_1
          try clear hcz92_2
          try clear hcz92_3
          try clear hcz92_4
          try clear hcz92_5
          try clear hcz92_6
          try clear hcz95_0
          try clear hcz95_1
          try clear hcz95_2
          try clear hcz95_3
          try clear hcz95_4
          try clear hcz97_0
          try clear hcz97_1
          try clear hcz97_2
          try clear hcz97_3
          try clear hcz97_4
          try clear hcz97_5
          try clear hcz97_6
          try clear hcz99_0
          try clear hcz99_1
          try clear hcz99_2
          try clear hcz99_3
          try clear hcz99_4
          try clear hcz99_5
          try clear hcz99_6
          try clear hfz102_0
          try clear hfz102_1
          try clear hfz102_2
          try clear hfz102_3
          try clear hfz102_4
          try clear hfz102_5
          try clear hfz102_6
          try clear hfz105_0
          try clear hfz105_1
          try clear hfz105_2
          try clear hfz105_3
          try clear hfz105_4
          try clear hfz109_0
          try clear hfz109_1
          try clear hfz109_2
          try clear hfz109_3
          try clear hfz109_4
          try clear hfz109_5
          try clear hfz109_6
          try clear hfz15_0
          try clear hfz15_1
          try clear hfz15_2
          try clear hfz15_3
          try clear hfz15_4
          try clear hfz21_0
          try clear hfz21_1
          try clear hfz21_2
          try clear hfz21_3
          try clear hfz21_4
          try clear hfz25_0
          try clear hfz25_1
          try clear hfz25_2
          try clear hfz25_3
          try clear hfz25_4
          try clear hfz29_0
          try clear hfz29_1
          try clear hfz29_2
          try clear hfz29_3
          try clear hfz29_4
          try clear hfz33_0
          try clear hfz33_1
          try clear hfz33_2
          try clear hfz33_3
          try clear hfz33_4
          try clear hfz37_0
          try clear hfz37_1
          try clear hfz37_2
          try clear hfz37_3
          try clear hfz37_4
          try clear hfz41_0
          try clear hfz41_1
          try clear hfz41_2
          try clear hfz41_3
          try clear hfz41_4
          try clear hfz45_0
          try clear hfz45_1
          try clear hfz45_2
          try clear hfz45_3
          try clear hfz45_4
          try clear hfz48_0
          try clear hfz48_1
          try clear hfz48_2
          try clear hfz48_3
          try clear hfz48_4
          try clear hfz54_0
          try clear hfz54_1
          try clear hfz54_2
          try clear hfz54_3
          try clear hfz54_4
          try clear hfz56_0
          try clear hfz56_1
          try clear hfz58_0
          try clear hfz58_1
          try clear hfz58_2
          try clear hfz58_3
          try clear hfz58_4
          try clear hfz69_0
          try clear hfz69_1
          try clear hfz69_2
          try clear hfz69_3
          try clear hfz69_4
          try clear hfz69_5
          try clear hfz69_6
          try clear hfz72_0
          try clear hfz72_1
          try clear hfz72_2
          try clear hfz72_3
          try clear hfz72_4
          try clear hfz74_0
          try clear hfz74_1
          try clear hfz74_2
          try clear hfz74_3
          try clear hfz74_4
          try clear hfz74_5
          try clear hfz74_6
          try clear hfz80_0
          try clear hfz80_1
          try clear hfz80_2
          try clear hfz80_3
          try clear hfz80_4
          try clear hfz80_5
          try clear hfz80_6
          try clear hfz83_0
          try clear hfz83_1
          try clear hfz83_2
          try clear hfz83_3
          try clear hfz83_4
          try clear hfz85_0
          try clear hfz85_1
          try clear hfz85_2
          try clear hfz85_3
          try clear hfz85_4
          try clear hfz85_5
          try clear hfz85_6
          try clear hfz87_0
          try clear hfz87_1
          try clear hfz87_2
          try clear hfz87_3
          try clear hfz87_4
          try clear hfz87_5
          try clear hfz87_6
          try clear hfz88_0
          try clear hfz88_1
          try clear hfz92_0
          try clear hfz92_1
          try clear hfz92_2
          try clear hfz92_3
          try clear hfz92_4
          try clear hfz92_5
          try clear hfz92_6
          try clear hfz95_0
          try clear hfz95_1
          try clear hfz95_2
          try clear hfz95_3
          try clear hfz95_4
          try clear hfz97_0
          try clear hfz97_1
          try clear hfz97_2
          try clear hfz97_3
          try clear hfz97_4
          try clear hfz97_5
          try clear hfz97_6
          try clear hfz99_0
          try clear hfz99_1
          try clear hfz99_2
          try clear hfz99_3
          try clear hfz99_4
          try clear hfz99_5
          try clear hfz99_6
          try clear p2
          try clear p6
          obtain ⟨kq, x121_50, rfl, HA, HJ50, BK540, BK541, BK542, HB⟩ := hcut
          cases kq with
          | zero => exact absurd HA.out (by simp [slotmeshlaw09_TimesyncTruth.j1])
          | succ kj50 =>
            have H := HA.out
            clear HA
            simp only [slotmeshlaw09_TimesyncTruth.j1] at H
            by_cases c111 : x121_50 = true
            · subst c111
              have H1 : (some t543) = some r := by rw [if_pos rfl] at H; exact H
              clear H
              have H := H1
              clear H1
              obtain rfl := Option.some.inj H
              go_wp2
              go_ret
              exact ⟨by first | rfl | (simp [errW_none, errW_some] <;> rfl) | (simp [*, errW_none, errW_some] <;> rfl), by repeat (first | (with_reducible first | exact HB.out | apply below_alloc | apply pw_below_drewN | apply below_drew1 | refine below_set ?_ GE540.out | refine below_set ?_ GE541.out | refine below_set ?_ GE542.out) | exact HB.out)⟩
            · replace c111 := Bool.eq_false_iff.mpr c111
              subst c111
              have H1 : ((timesync_Hear.f kj50 a0_0 a0_1 a0_2 a0_3 a0_4 a0_5 a0_6 a2_0 a2_1 a2_2 (wrap64 (Int.tdiv (wrap64 (a3 + a4)) 10000)) t544).bind fun bt550 => (if bt550.2.2.2.2.2.2.2 = 0 then (if t543 = true then ((slotmeshref09_Takes.f a0_0 a0_1 a0_2 a0_3 a0_4 a0_5 a0_6 a2_0 a2_1 a2_2 (wrap64 (Int.tdiv (wrap64 (a3 + a4)) 10000)) t544).bind fun t559 => (if t559 = true then ((slotmeshlaw09_holds.f bt550.1 bt550.2.1 bt550.2.2.1 bt550.2.2.2.1 bt550.2.2.2.2.1 bt550.2.2.2.2.2.1 bt550.2.2.2.2.2.2.1 a1_0 a1_1 (wrap64 ((wrap64 ((wrap64 (Int.tdiv (wrap64 (a3 + a4)) 10000)) * 10000)) + a5))).bind fun t560 => (some t560)) else (if (bt550.1 == a0_0 && ((bt550.2.1 == a0_1 && (bt550.2.2.1 == a0_2 && (bt550.2.2.2.1 == a0_3))) && (bt550.2.2.2.2.1 == a0_4 && (bt550.2.2.2.2.2.1 == a0_5 && (bt550.2.2.2.2.2.2.1 == a0_6))))) = true then (some true) else ((slotmeshlaw09_holds.f bt550.1 bt550.2.1 bt550.2.2.1 bt550.2.2.2.1 bt550.2.2.2.2.1 bt550.2.2.2.2.2.1 bt550.2.2.2.2.2.2.1 a1_0 a1_1 (wrap64 ((wrap64 ((wrap64 (Int.tdiv (wrap64 (a3 + a4)) 10000)) * 10000)) + a5))).bind fun t561 => (some t561))))) else (none)) else (if t543 = true then (if bt550.2.2.2.2.2.2.2 = 16 then (none) else (some (bt550.2.2.2.2.2.2.2 != 1))) else (none)))) = some r := by rw [if_neg (show ¬ (false = true) by decide)] at H; exact H
              clear H
              have H := H1
              clear H1
              replace H := Option.bind_eq_some_iff.mp H
              obtain ⟨⟨t550, t551, t552, t553, t554, t555, t556, t557⟩, A1120, H⟩ := H
              replace H : (if t557 = 0 then (if t543 = true then ((slotmeshref09_Takes.f a0_0 a0_1 a0_2 a0_3 a0_4 a0_5 a0_6 a2_0 a2_1 a2_2 (wrap64 (Int.tdiv (wrap64 (a3 + a4)) 10000)) t544).bind fun t559 => (if t559 = true then ((slotmeshlaw09_holds.f t550 t551 t552 t553 t554 t555 t556 a1_0 a1_1 (wrap64 ((wrap64 ((wrap64 (Int.tdiv (wrap64 (a3 + a4)) 10000)) * 10000)) + a5))).bind fun t560 => (some t560)) else (if (t550 == a0_0 && ((t551 == a0_1 && (t552 == a0_2 && (t553 == a0_3))) && (t554 == a0_4 && (t555 == a0_5 && (t556 == a0_6))))) = true then (some true) else ((slotmeshlaw09_holds.f t550 t551 t552 t553 t554 t555 t556 a1_0 a1_1 (wrap64 ((wrap64 ((wrap64 (Int.tdiv (wrap64 (a3 + a4)) 10000)) * 10000)) + a5))).bind fun t561 => (some t561))))) else (none)) else (if t543 = true then (if t557 = 16 then (none) else (some (t557 != 1))) else (none))) = some r := H
              have A112 := Aside0.mk A1120
              clear A1120
              by_cases c113 : t557 = 0
              · rw [if_pos c113] at H
                have c113b0 : (t557 == 0) = true := beq_iff_eq.mpr c113
                have c113b1 : (t557 != 0) = false := bne_eq_false_iff_eq.mpr c113
                clear c113
                by_cases c114 : t543 = true
                · subst c114
                  have H1 : ((slotmeshref09_Takes.f a0_0 a0_1 a0_2 a0_3 a0_4 a0_5 a0_6 a2_0 a2_1 a2_2 (wrap64 (Int.tdiv (wrap64 (a3 + a4)) 10000)) t544).bind fun t559 => (if t559 = true then ((slotmeshlaw09_holds.f t550 t551 t552 t553 t554 t555 t556 a1_0 a1_1 (wrap64 ((wrap64 ((wrap64 (Int.tdiv (wrap64 (a3 + a4)) 10000)) * 10000)) + a5))).bind fun t560 => (some t560)) else (if (t550 == a0_0 && ((t551 == a0_1 && (t552 == a0_2 && (t553 == a0_3))) && (t554 == a0_4 && (t555 == a0_5 && (t556 == a0_6))))) = true then (some true) else ((slotmeshlaw09_holds.f t550 t551 t552 t553 t554 t555 t556 a1_0 a1_1 (wrap64 ((wrap64 ((wrap64 (Int.tdiv (wrap64 (a3 + a4)) 10000)) * 10000)) + a5))).bind fun t561 => (some t561))))) = some r := by rw [if_pos rfl] at H; exact H
                  clear H
                  have H := H1
                  clear H1
                  replace H := Option.bind_eq_some_iff.mp H
                  obtain ⟨t559, A1150, H⟩ := H
                  replace H : (if t559 = true then ((slotmeshlaw09_holds.f t550 t551 t552 t553 t554 t555 t556 a1_0 a1_1 (wrap64 ((wrap64 ((wrap64 (Int.tdiv (wrap64 (a3 + a4)) 10000)) * 10000)) + a5))).bind fun t560 => (some t560)) else (if (t550 == a0_0 && ((t551 == a0_1 && (t552 == a0_2 && (t553 == a0_3))) && (t554 == a0_4 && (t555 == a0_5 && (t556 == a0_6))))) = true then (some true) else ((slotmeshlaw09_holds.f t550 t551 t552 t553 t554 t555 t556 a1_0 a1_1 (wrap64 ((wrap64 ((wrap64 (Int.tdiv (wrap64 (a3 + a4)) 10000)) * 10000)) + a5))).bind fun t561 => (some t561)))) = some r := H
                  have A115 := Aside0.mk A1150
                  clear A1150
                  by_cases c116 : t559 = true
                  · subst c116
                    have H1 : ((slotmeshlaw09_holds.f t550 t551 t552 t553 t554 t555 t556 a1_0 a1_1 (wrap64 ((wrap64 ((wrap64 (Int.tdiv (wrap64 (a3 + a4)) 10000)) * 10000)) + a5))).bind fun t560 => (some t560)) = some r := by rw [if_pos rfl] at H; exact H
                    clear H
                    have H := H1
                    clear H1
                    replace H := Option.bind_eq_some_iff.mp H
                    obtain ⟨t560, A1170, H⟩ := H
                    replace H : (some t560) = some r := H
                    have A117 := Aside0.mk A1170
                    clear A1170
                    obtain rfl := Option.some.inj H
                    have hnb118 := NB540_541.out
                    have hnc118 := NB541_540.out
                    have hnb119 := NB540_542.out
                    have hnc119 := NB542_540.out
                    have hcz120_0 : wc.cell? ⟨gb540, 0, none⟩ = some (.bool a0_0) := (blk_cell BK540.out 0).trans rfl
                    have hcz120_1 : wc.cell? ⟨gb540, 1, none⟩ = some (.int .i64 a0_1) := (blk_cell BK540.out 1).trans rfl
                    have hcz120_2 : wc.cell? ⟨gb540, 2, none⟩ = some (.int .i64 a0_2) := (blk_cell BK540.out 2).trans rfl
                    have hcz120_3 : wc.cell? ⟨gb540, 3, none⟩ = some (.int .i64 a0_3) := (blk_cell BK540.out 3).trans rfl
                    have hcz120_4 : wc.cell? ⟨gb540, 4, none⟩ = some (.int .i64 a0_4) := (blk_cell BK540.out 4).trans rfl
                    have hcz120_5 : wc.cell? ⟨gb540, 5, none⟩ = some (.int .i64 a0_5) := (blk_cell BK540.out 5).trans rfl
                    have hcz120_6 : wc.cell? ⟨gb540, 6, none⟩ = some (.int .i64 a0_6) := (blk_cell BK540.out 6).trans rfl
                    have hfz120_0 := blk_frozen BK540.out 0
                    have hfz120_1 := blk_frozen BK540.out 1
                    have hfz120_2 := blk_frozen BK540.out 2
                    have hfz120_3 := blk_frozen BK540.out 3
                    have hfz120_4 := blk_frozen BK540.out 4
                    have hfz120_5 := blk_frozen BK540.out 5
                    have hfz120_6 := blk_frozen BK540.out 6
                    have hnb121 := NB542_541.out
                    have hnc121 := NB541_542.out
                    have hcz122_0 : wc.cell? ⟨gb542, 0, none⟩ = some (.int .i64 a2_0) := (blk_cell BK542.out 0).trans rfl
                    have hcz122_1 : wc.cell? ⟨gb542, 1, none⟩ = some (.int .i64 a2_1) := (blk_cell BK542.out 1).trans rfl
                    have hcz122_2 : wc.cell? ⟨gb542, 2, none⟩ = some (.int .i64 a2_2) := (blk_cell BK542.out 2).trans rfl
                    have hcz122_3 : wc.cell? ⟨gb542, 3, none⟩ = some (.int .i64 (wrap64 (Int.tdiv (wrap64 (a3 + a4)) 10000))) := (blk_cell BK542.out 3).trans rfl
                    have hcz122_4 : wc.cell? ⟨gb542, 4, none⟩ = some (.int .i64 t544) := (blk_cell BK542.out 4).trans rfl
                    have hfz122_0 := blk_frozen BK542.out 0
                    have hfz122_1 := blk_frozen BK542.out 1
                    have hfz122_2 := blk_frozen BK542.out 2
                    have hfz122_3 := blk_frozen BK542.out 3
                    have hfz122_4 := blk_frozen BK542.out 4
                    go_wp2_with (first | ((with_reducible refine gate_callee (f := 12) rfl ?_); refine goesL_ (some 126) rfl rfl Try.func12 (by kernel_rfl) rfl #[.agg #[.bool a0_0, .int .i64 a0_1, .int .i64 a0_2, .int .i64 a0_3, .int .i64 a0_4, .int .i64 a0_5, .int .i64 a0_6], .agg #[.int .i64 a2_0, .int .i64 a2_1, .int .i64 a2_2, .int .i64 (wrap64 (Int.tdiv (wrap64 (a3 + a4)) 10000)), .int .i64 t544]] rfl (by (try simp only [List.map_toArray, List.map_cons, List.map_nil]); first | done | rfl | (simp only [List.length_drop, List.length_take]; rfl)) ?_; (with_reducible refine (timesync_Hear.calls kj50 a0_0 a0_1 a0_2 a0_3 a0_4 a0_5 a0_6 a2_0 a2_1 a2_2 (wrap64 (Int.tdiv (wrap64 (a3 + a4)) 10000)) t544 t550 t551 t552 t553 t554 t555 t556 t557 _ A112.out).mono ?_); rintro e w123 ⟨rfl, hb⟩; refine ⟨_, rfl, ?_⟩; have n0_ := Aside0.mk (blk_below (g := gb540) (o := .cells #[.bool a0_0, .int .i64 a0_1, .int .i64 a0_2, .int .i64 a0_3, .int .i64 a0_4, .int .i64 a0_5, .int .i64 a0_6] 25 (0, 0)) (by (with_reducible repeat (first | refine blk_drewN ?_ _ | refine blk_drew ?_ | refine blk_alloc ?_ _)); exact BK540.out) hb); have n1_ := Aside0.mk (blk_below (g := gb541) (o := .cells #[.int .i64 a1_0, .int .i64 a1_1] 47 (0, 0)) (by (with_reducible repeat (first | refine blk_drewN ?_ _ | refine blk_drew ?_ | refine blk_alloc ?_ _)); exact BK541.out) hb); have n2_ := Aside0.mk (blk_below (g := gb542) (o := .cells #[.int .i64 a2_0, .int .i64 a2_1, .int .i64 a2_2, .int .i64 (wrap64 (Int.tdiv (wrap64 (a3 + a4)) 10000)), .int .i64 t544] 27 (0, 0)) (by (with_reducible repeat (first | refine blk_drewN ?_ _ | refine blk_drew ?_ | refine blk_alloc ?_ _)); exact BK542.out) hb); have n3_ := Aside0.mk (below_step (by repeat (first | (with_reducible first | exact HB.out | apply below_alloc | apply pw_below_drewN | apply below_drew1 | refine below_set ?_ GE540.out | refine below_set ?_ GE541.out | refine below_set ?_ GE542.out) | exact HB.out)) hb); clear BK540; clear BK541; clear BK542; clear HB; have BK540 := n0_; have BK541 := n1_; have BK542 := n2_; have HB := n3_; clear n0_ n1_ n2_ n3_; (try clear hb); (try clear hb2); (try clear hk); (try clear hi)) | ((with_reducible refine gate_dst (N := 17) rfl ?_); refine box_event ?hg (N := 17) ?hd (cs := #[.bool false, .int .i64 0, .int .i64 0, .int .i64 0, .int .i64 0, .int .i64 0, .int .i64 0]) (t := 25) ?hr ?_; (case hd => rfl); (case hg => rfl); (case hr => first | (go_simp; done) | (go_simp; rfl)); intro gb558 hg w124 hbox hb; have n0_ := Aside0.mk (blk_below (g := gb540) (o := .cells #[.bool a0_0, .int .i64 a0_1, .int .i64 a0_2, .int .i64 a0_3, .int .i64 a0_4, .int .i64 a0_5, .int .i64 a0_6] 25 (0, 0)) (by (with_reducible repeat (first | refine blk_drewN ?_ _ | refine blk_drew ?_ | refine blk_alloc ?_ _)); exact BK540.out) hb); have n1_ := Aside0.mk (blk_below (g := gb541) (o := .cells #[.int .i64 a1_0, .int .i64 a1_1] 47 (0, 0)) (by (with_reducible repeat (first | refine blk_drewN ?_ _ | refine blk_drew ?_ | refine blk_alloc ?_ _)); exact BK541.out) hb); have n2_ := Aside0.mk (blk_below (g := gb542) (o := .cells #[.int .i64 a2_0, .int .i64 a2_1, .int .i64 a2_2, .int .i64 (wrap64 (Int.tdiv (wrap64 (a3 + a4)) 10000)), .int .i64 t544] 27 (0, 0)) (by (with_reducible repeat (first | refine blk_drewN ?_ _ | refine blk_drew ?_ | refine blk_alloc ?_ _)); exact BK542.out) hb); have n3_ := Aside0.mk (below_step (by repeat (first | (with_reducible first | exact HB.out | apply below_alloc | apply pw_below_drewN | apply below_drew1 | refine below_set ?_ GE540.out | refine below_set ?_ GE541.out | refine below_set ?_ GE542.out) | exact HB.out)) hb); have n4_ := Aside0.mk (hbox); have n5_ := Aside0.mk ((by rw [hg]; exact (below_size (by repeat (first | (with_reducible first | exact HB.out | apply below_alloc | apply pw_below_drewN | apply below_drew1 | refine below_set ?_ GE540.out | refine below_set ?_ GE541.out | refine below_set ?_ GE542.out) | exact HB.out))) : w.heap.size ≤ gb558)); have n6_ := Aside0.mk ((by rw [hg]; exact (below_size (by repeat (first | (with_reducible first | exact HB.out | apply below_alloc | apply pw_below_drewN | apply below_drew1 | refine below_set ?_ GE540.out | refine below_set ?_ GE541.out | refine below_set ?_ GE542.out) | exact HB.out))) : w.heap.size ≤ gb558)); have n7_ := Aside0.mk ((by rw [hg]; exact Nat.ne_of_lt (blk_lt (g := gb540) (o := .cells #[.bool a0_0, .int .i64 a0_1, .int .i64 a0_2, .int .i64 a0_3, .int .i64 a0_4, .int .i64 a0_5, .int .i64 a0_6] 25 (0, 0)) (by (with_reducible repeat (first | refine blk_drewN ?_ _ | refine blk_drew ?_ | refine blk_alloc ?_ _)); exact BK540.out)) : gb540 ≠ gb558)); have n8_ := Aside0.mk ((by rw [hg]; exact Nat.ne_of_gt (blk_lt (g := gb540) (o := .cells #[.bool a0_0, .int .i64 a0_1, .int .i64 a0_2, .int .i64 a0_3, .int .i64 a0_4, .int .i64 a0_5, .int .i64 a0_6] 25 (0, 0)) (by (with_reducible repeat (first | refine blk_drewN ?_ _ | refine blk_drew ?_ | refine blk_alloc ?_ _)); exact BK540.out)) : gb558 ≠ gb540)); have n9_ := Aside0.mk ((by rw [hg]; exact Nat.ne_of_lt (blk_lt (g := gb541) (o := .cells #[.int .i64 a1_0, .int .i64 a1_1] 47 (0, 0)) (by (with_reducible repeat (first | refine blk_drewN ?_ _ | refine blk_drew ?_ | refine blk_alloc ?_ _)); exact BK541.out)) : gb541 ≠ gb558)); have n10_ := Aside0.mk ((by rw [hg]; exact Nat.ne_of_gt (blk_lt (g := gb541) (o := .cells #[.int .i64 a1_0, .int .i64 a1_1] 47 (0, 0)) (by (with_reducible repeat (first | refine blk_drewN ?_ _ | refine blk_drew ?_ | refine blk_alloc ?_ _)); exact BK541.out)) : gb558 ≠ gb541)); have n11_ := Aside0.mk ((by rw [hg]; exact Nat.ne_of_lt (blk_lt (g := gb542) (o := .cells #[.int .i64 a2_0, .int .i64 a2_1, .int .i64 a2_2, .int .i64 (wrap64 (Int.tdiv (wrap64 (a3 + a4)) 10000)), .int .i64 t544] 27 (0, 0)) (by (with_reducible repeat (first | refine blk_drewN ?_ _ | refine blk_drew ?_ | refine blk_alloc ?_ _)); exact BK542.out)) : gb542 ≠ gb558)); have n12_ := Aside0.mk ((by rw [hg]; exact Nat.ne_of_gt (blk_lt (g := gb542) (o := .cells #[.int .i64 a2_0, .int .i64 a2_1, .int .i64 a2_2, .int .i64 (wrap64 (Int.tdiv (wrap64 (a3 + a4)) 10000)), .int .i64 t544] 27 (0, 0)) (by (with_reducible repeat (first | refine blk_drewN ?_ _ | refine blk_drew ?_ | refine blk_alloc ?_ _)); exact BK542.out)) : gb558 ≠ gb542)); clear BK540; clear BK541; clear BK542; clear HB; have BK540 := n0_; have BK541 := n1_; have BK542 := n2_; have HB := n3_; have BK558 := n4_; have GW558 := n5_; have GE558 := n6_; have NB540_558 := n7_; have NB558_540 := n8_; have NB541_558 := n9_; have NB558_541 := n10_; have NB542_558 := n11_; have NB558_542 := n12_; clear n0_ n1_ n2_ n3_ n4_ n5_ n6_ n7_ n8_ n9_ n10_ n11_ n12_; clear hb hbox hg; have hnb125 := NB558_540.out; have hnc125 := NB540_558.out; have hnb126 := NB558_541.out; have hnc126 := NB541_558.out; have hnb127 := NB558_542.out; have hnc127 := NB542_558.out; have hcz128_0 : w124.cell? ⟨gb558, 0, none⟩ = some (.bool false) := (blk_cell BK558.out 0).trans rfl; have hcz128_1 : w124.cell? ⟨gb558, 1, none⟩ = some (.int .i64 0) := (blk_cell BK558.out 1).trans rfl; have hcz128_2 : w124.cell? ⟨gb558, 2, none⟩ = some (.int .i64 0) := (blk_cell BK558.out 2).trans rfl; have hcz128_3 : w124.cell? ⟨gb558, 3, none⟩ = some (.int .i64 0) := (blk_cell BK558.out 3).trans rfl; have hcz128_4 : w124.cell? ⟨gb558, 4, none⟩ = some (.int .i64 0) := (blk_cell BK558.out 4).trans rfl; have hcz128_5 : w124.cell? ⟨gb558, 5, none⟩ = some (.int .i64 0) := (blk_cell BK558.out 5).trans rfl; have hcz128_6 : w124.cell? ⟨gb558, 6, none⟩ = some (.int .i64 0) := (blk_cell BK558.out 6).trans rfl; have hfz128_0 := blk_frozen BK558.out 0; have hfz128_1 := blk_frozen BK558.out 1; have hfz128_2 := blk_frozen BK558.out 2; have hfz128_3 := blk_frozen BK558.out 3; have hfz128_4 := blk_frozen BK558.out 4; have hfz128_5 := blk_frozen BK558.out 5; have hfz128_6 := blk_frozen BK558.out 6; have hcz129_0 : w124.cell? ⟨gb540, 0, none⟩ = some (.bool a0_0) := (blk_cell BK540.out 0).trans rfl; have hcz129_1 : w124.cell? ⟨gb540, 1, none⟩ = some (.int .i64 a0_1) := (blk_cell BK540.out 1).trans rfl; have hcz129_2 : w124.cell? ⟨gb540, 2, none⟩ = some (.int .i64 a0_2) := (blk_cell BK540.out 2).trans rfl; have hcz129_3 : w124.cell? ⟨gb540, 3, none⟩ = some (.int .i64 a0_3) := (blk_cell BK540.out 3).trans rfl; have hcz129_4 : w124.cell? ⟨gb540, 4, none⟩ = some (.int .i64 a0_4) := (blk_cell BK540.out 4).trans rfl; have hcz129_5 : w124.cell? ⟨gb540, 5, none⟩ = some (.int .i64 a0_5) := (blk_cell BK540.out 5).trans rfl; have hcz129_6 : w124.cell? ⟨gb540, 6, none⟩ = some (.int .i64 a0_6) := (blk_cell BK540.out 6).trans rfl; have hfz129_0 := blk_frozen BK540.out 0; have hfz129_1 := blk_frozen BK540.out 1; have hfz129_2 := blk_frozen BK540.out 2; have hfz129_3 := blk_frozen BK540.out 3; have hfz129_4 := blk_frozen BK540.out 4; have hfz129_5 := blk_frozen BK540.out 5; have hfz129_6 := blk_frozen BK540.out 6; have hcz130_0 : w124.cell? ⟨gb542, 0, none⟩ = some (.int .i64 a2_0) := (blk_cell BK542.out 0).trans rfl; have hcz130_1 : w124.cell? ⟨gb542, 1, none⟩ = some (.int .i64 a2_1) := (blk_cell BK542.out 1).trans rfl; have hcz130_2 : w124.cell? ⟨gb542, 2, none⟩ = some (.int .i64 a2_2) := (blk_cell BK542.out 2).trans rfl; have hcz130_3 : w124.cell? ⟨gb542, 3, none⟩ = some (.int .i64 (wrap64 (Int.tdiv (wrap64 (a3 + a4)) 10000))) := (blk_cell BK542.out 3).trans rfl; have hcz130_4 : w124.cell? ⟨gb542, 4, none⟩ = some (.int .i64 t544) := (blk_cell BK542.out 4).trans rfl; have hfz130_0 := blk_frozen BK542.out 0; have hfz130_1 := blk_frozen BK542.out 1; have hfz130_2 := blk_frozen BK542.out 2; have hfz130_3 := blk_frozen BK542.out 3; have hfz130_4 := blk_frozen BK542.out 4) | (go_at_call 27; (with_reducible refine (slotmeshref09_Takes.calls a0_0 a0_1 a0_2 a0_3 a0_4 a0_5 a0_6 a2_0 a2_1 a2_2 (wrap64 (Int.tdiv (wrap64 (a3 + a4)) 10000)) t544 true _ A115.out).mono ?_); rintro e w131 ⟨rfl, hb⟩; have n0_ := Aside0.mk (blk_below (g := gb540) (o := .cells #[.bool a0_0, .int .i64 a0_1, .int .i64 a0_2, .int .i64 a0_3, .int .i64 a0_4, .int .i64 a0_5, .int .i64 a0_6] 25 (0, 0)) (by (with_reducible repeat (first | refine blk_drewN ?_ _ | refine blk_drew ?_ | refine blk_alloc ?_ _)); refine blk_far ?_ NB540_558.out _; (with_reducible repeat (first | refine blk_drewN ?_ _ | refine blk_drew ?_ | refine blk_alloc ?_ _)); refine blk_far ?_ NB540_558.out _; (with_reducible repeat (first | refine blk_drewN ?_ _ | refine blk_drew ?_ | refine blk_alloc ?_ _)); refine blk_far ?_ NB540_558.out _; (with_reducible repeat (first | refine blk_drewN ?_ _ | refine blk_drew ?_ | refine blk_alloc ?_ _)); refine blk_far ?_ NB540_558.out _; (with_reducible repeat (first | refine blk_drewN ?_ _ | refine blk_drew ?_ | refine blk_alloc ?_ _)); refine blk_far ?_ NB540_558.out _; (with_reducible repeat (first | refine blk_drewN ?_ _ | refine blk_drew ?_ | refine blk_alloc ?_ _)); refine blk_far ?_ NB540_558.out _; (with_reducible repeat (first | refine blk_drewN ?_ _ | refine blk_drew ?_ | refine blk_alloc ?_ _)); refine blk_far ?_ NB540_558.out _; (with_reducible repeat (first | refine blk_drewN ?_ _ | refine blk_drew ?_ | refine blk_alloc ?_ _)); exact BK540.out) hb); have n1_ := Aside0.mk (blk_below (g := gb541) (o := .cells #[.int .i64 a1_0, .int .i64 a1_1] 47 (0, 0)) (by (with_reducible repeat (first | refine blk_drewN ?_ _ | refine blk_drew ?_ | refine blk_alloc ?_ _)); refine blk_far ?_ NB541_558.out _; (with_reducible repeat (first | refine blk_drewN ?_ _ | refine blk_drew ?_ | refine blk_alloc ?_ _)); refine blk_far ?_ NB541_558.out _; (with_reducible repeat (first | refine blk_drewN ?_ _ | refine blk_drew ?_ | refine blk_alloc ?_ _)); refine blk_far ?_ NB541_558.out _; (with_reducible repeat (first | refine blk_drewN ?_ _ | refine blk_drew ?_ | refine blk_alloc ?_ _)); refine blk_far ?_ NB541_558.out _; (with_reducible repeat (first | refine blk_drewN ?_ _ | refine blk_drew ?_ | refine blk_alloc ?_ _)); refine blk_far ?_ NB541_558.out _; (with_reducible repeat (first | refine blk_drewN ?_ _ | refine blk_drew ?_ | refine blk_alloc ?_ _)); refine blk_far ?_ NB541_558.out _; (with_reducible repeat (first | refine blk_drewN ?_ _ | refine blk_drew ?_ | refine blk_alloc ?_ _)); refine blk_far ?_ NB541_558.out _; (with_reducible repeat (first | refine blk_drewN ?_ _ | refine blk_drew ?_ | refine blk_alloc ?_ _)); exact BK541.out) hb); have n2_ := Aside0.mk (blk_below (g := gb542) (o := .cells #[.int .i64 a2_0, .int .i64 a2_1, .int .i64 a2_2, .int .i64 (wrap64 (Int.tdiv (wrap64 (a3 + a4)) 10000)), .int .i64 t544] 27 (0, 0)) (by (with_reducible repeat (first | refine blk_drewN ?_ _ | refine blk_drew ?_ | refine blk_alloc ?_ _)); refine blk_far ?_ NB542_558.out _; (with_reducible repeat (first | refine blk_drewN ?_ _ | refine blk_drew ?_ | refine blk_alloc ?_ _)); refine blk_far ?_ NB542_558.out _; (with_reducible repeat (first | refine blk_drewN ?_ _ | refine blk_drew ?_ | refine blk_alloc ?_ _)); refine blk_far ?_ NB542_558.out _; (with_reducible repeat (first | refine blk_drewN ?_ _ | refine blk_drew ?_ | refine blk_alloc ?_ _)); refine blk_far ?_ NB542_558.out _; (with_reducible repeat (first | refine blk_drewN ?_ _ | refine blk_drew ?_ | refine blk_alloc ?_ _)); refine blk_far ?_ NB542_558.out _; (with_reducible repeat (first | refine blk_drewN ?_ _ | refine blk_drew ?_ | refine blk_alloc ?_ _)); refine blk_far ?_ NB542_558.out _; (with_reducible repeat (first | refine blk_drewN ?_ _ | refine blk_drew ?_ | refine blk_alloc ?_ _)); refine blk_far ?_ NB542_558.out _; (with_reducible repeat (first | refine blk_drewN ?_ _ | refine blk_drew ?_ | refine blk_alloc ?_ _)); exact BK542.out) hb); have n3_ := Aside0.mk (blk_below (g := gb558) (o := .cells #[.bool t550, .int .i64 t551, .int .i64 t552, .int .i64 t553, .int .i64 t554, .int .i64 t555, .int .i64 t556] 25 (0, 0)) (by (with_reducible repeat (first | refine blk_drewN ?_ _ | refine blk_drew ?_ | refine blk_alloc ?_ _)); refine blk_put (cs := #[.bool t550, .int .i64 t551, .int .i64 t552, .int .i64 t553, .int .i64 t554, .int .i64 t555, .int .i64 0]) ?_ 6 _ rfl; (with_reducible repeat (first | refine blk_drewN ?_ _ | refine blk_drew ?_ | refine blk_alloc ?_ _)); refine blk_put (cs := #[.bool t550, .int .i64 t551, .int .i64 t552, .int .i64 t553, .int .i64 t554, .int .i64 0, .int .i64 0]) ?_ 5 _ rfl; (with_reducible repeat (first | refine blk_drewN ?_ _ | refine blk_drew ?_ | refine blk_alloc ?_ _)); refine blk_put (cs := #[.bool t550, .int .i64 t551, .int .i64 t552, .int .i64 t553, .int .i64 0, .int .i64 0, .int .i64 0]) ?_ 4 _ rfl; (with_reducible repeat (first | refine blk_drewN ?_ _ | refine blk_drew ?_ | refine blk_alloc ?_ _)); refine blk_put (cs := #[.bool t550, .int .i64 t551, .int .i64 t552, .int .i64 0, .int .i64 0, .int .i64 0, .int .i64 0]) ?_ 3 _ rfl; (with_reducible repeat (first | refine blk_drewN ?_ _ | refine blk_drew ?_ | refine blk_alloc ?_ _)); refine blk_put (cs := #[.bool t550, .int .i64 t551, .int .i64 0, .int .i64 0, .int .i64 0, .int .i64 0, .int .i64 0]) ?_ 2 _ rfl; (with_reducible repeat (first | refine blk_drewN ?_ _ | refine blk_drew ?_ | refine blk_alloc ?_ _)); refine blk_put (cs := #[.bool t550, .int .i64 0, .int .i64 0, .int .i64 0, .int .i64 0, .int .i64 0, .int .i64 0]) ?_ 1 _ rfl; (with_reducible repeat (first | refine blk_drewN ?_ _ | refine blk_drew ?_ | refine blk_alloc ?_ _)); refine blk_put (cs := #[.bool false, .int .i64 0, .int .i64 0, .int .i64 0, .int .i64 0, .int .i64 0, .int .i64 0]) ?_ 0 _ rfl; (with_reducible repeat (first | refine blk_drewN ?_ _ | refine blk_drew ?_ | refine blk_alloc ?_ _)); exact BK558.out) hb); have n4_ := Aside0.mk (below_step (by repeat (first | (with_reducible first | exact HB.out | apply below_alloc | apply pw_below_drewN | apply below_drew1 | refine below_set ?_ GE540.out | refine below_set ?_ GE541.out | refine below_set ?_ GE542.out | refine below_set ?_ GE558.out) | exact HB.out)) hb); clear BK540; clear BK541; clear BK542; clear BK558; clear HB; have BK540 := n0_; have BK541 := n1_; have BK542 := n2_; have BK558 := n3_; have HB := n4_; clear n0_ n1_ n2_ n3_ n4_; (try clear hb); (try clear hb2); (try clear hk); (try clear hi); have hcz132_0 : w131.cell? ⟨gb558, 0, none⟩ = some (.bool t550) := (blk_cell BK558.out 0).trans rfl; have hcz132_1 : w131.cell? ⟨gb558, 1, none⟩ = some (.int .i64 t551) := (blk_cell BK558.out 1).trans rfl; have hcz132_2 : w131.cell? ⟨gb558, 2, none⟩ = some (.int .i64 t552) := (blk_cell BK558.out 2).trans rfl; have hcz132_3 : w131.cell? ⟨gb558, 3, none⟩ = some (.int .i64 t553) := (blk_cell BK558.out 3).trans rfl; have hcz132_4 : w131.cell? ⟨gb558, 4, none⟩ = some (.int .i64 t554) := (blk_cell BK558.out 4).trans rfl; have hcz132_5 : w131.cell? ⟨gb558, 5, none⟩ = some (.int .i64 t555) := (blk_cell BK558.out 5).trans rfl; have hcz132_6 : w131.cell? ⟨gb558, 6, none⟩ = some (.int .i64 t556) := (blk_cell BK558.out 6).trans rfl; have hfz132_0 := blk_frozen BK558.out 0; have hfz132_1 := blk_frozen BK558.out 1; have hfz132_2 := blk_frozen BK558.out 2; have hfz132_3 := blk_frozen BK558.out 3; have hfz132_4 := blk_frozen BK558.out 4; have hfz132_5 := blk_frozen BK558.out 5; have hfz132_6 := blk_frozen BK558.out 6; have hcz133_0 : w131.cell? ⟨gb541, 0, none⟩ = some (.int .i64 a1_0) := (blk_cell BK541.out 0).trans rfl; have hcz133_1 : w131.cell? ⟨gb541, 1, none⟩ = some (.int .i64 a1_1) := (blk_cell BK541.out 1).trans rfl; have hfz133_0 := blk_frozen BK541.out 0; have hfz133_1 := blk_frozen BK541.out 1) | (go_at_call 26; (with_reducible refine (slotmeshlaw09_holds.calls t550 t551 t552 t553 t554 t555 t556 a1_0 a1_1 (wrap64 ((wrap64 ((wrap64 (Int.tdiv (wrap64 (a3 + a4)) 10000)) * 10000)) + a5)) t560 _ A117.out).mono ?_); rintro e w134 ⟨rfl, hb⟩; have n0_ := Aside0.mk (blk_below (g := gb540) (o := .cells #[.bool a0_0, .int .i64 a0_1, .int .i64 a0_2, .int .i64 a0_3, .int .i64 a0_4, .int .i64 a0_5, .int .i64 a0_6] 25 (0, 0)) (by (with_reducible repeat (first | refine blk_drewN ?_ _ | refine blk_drew ?_ | refine blk_alloc ?_ _)); exact BK540.out) hb); have n1_ := Aside0.mk (blk_below (g := gb541) (o := .cells #[.int .i64 a1_0, .int .i64 a1_1] 47 (0, 0)) (by (with_reducible repeat (first | refine blk_drewN ?_ _ | refine blk_drew ?_ | refine blk_alloc ?_ _)); exact BK541.out) hb); have n2_ := Aside0.mk (blk_below (g := gb542) (o := .cells #[.int .i64 a2_0, .int .i64 a2_1, .int .i64 a2_2, .int .i64 (wrap64 (Int.tdiv (wrap64 (a3 + a4)) 10000)), .int .i64 t544] 27 (0, 0)) (by (with_reducible repeat (first | refine blk_drewN ?_ _ | refine blk_drew ?_ | refine blk_alloc ?_ _)); exact BK542.out) hb); have n3_ := Aside0.mk (blk_below (g := gb558) (o := .cells #[.bool t550, .int .i64 t551, .int .i64 t552, .int .i64 t553, .int .i64 t554, .int .i64 t555, .int .i64 t556] 25 (0, 0)) (by (with_reducible repeat (first | refine blk_drewN ?_ _ | refine blk_drew ?_ | refine blk_alloc ?_ _)); exact BK558.out) hb); have n4_ := Aside0.mk (below_step (by repeat (first | (with_reducible first | exact HB.out | apply below_alloc | apply pw_below_drewN | apply below_drew1 | refine below_set ?_ GE540.out | refine below_set ?_ GE541.out | refine below_set ?_ GE542.out | refine below_set ?_ GE558.out) | exact HB.out)) hb); clear BK540; clear BK541; clear BK542; clear BK558; clear HB; have BK540 := n0_; have BK541 := n1_; have BK542 := n2_; have BK558 := n3_; have HB := n4_; clear n0_ n1_ n2_ n3_ n4_; (try clear hb); (try clear hb2); (try clear hk); (try clear hi)))
                    go_ret
                    exact ⟨by first | rfl | (simp [errW_none, errW_some] <;> rfl) | (simp [*, errW_none, errW_some] <;> rfl), by repeat (first | (with_reducible first | exact HB.out | apply below_alloc | apply pw_below_drewN | apply below_drew1 | refine below_set ?_ GE540.out | refine below_set ?_ GE541.out | refine below_set ?_ GE542.out | refine below_set ?_ GE558.out) | exact HB.out)⟩
                  · replace c116 := Bool.eq_false_iff.mpr c116
                    subst c116
                    have H1 : (if (t550 == a0_0 && ((t551 == a0_1 && (t552 == a0_2 && (t553 == a0_3))) && (t554 == a0_4 && (t555 == a0_5 && (t556 == a0_6))))) = true then (some true) else ((slotmeshlaw09_holds.f t550 t551 t552 t553 t554 t555 t556 a1_0 a1_1 (wrap64 ((wrap64 ((wrap64 (Int.tdiv (wrap64 (a3 + a4)) 10000)) * 10000)) + a5))).bind fun t561 => (some t561))) = some r := by rw [if_neg (show ¬ (false = true) by decide)] at H; exact H
                    clear H
                    have H := H1
                    clear H1
                    by_cases c135 : (t550 == a0_0 && ((t551 == a0_1 && (t552 == a0_2 && (t553 == a0_3))) && (t554 == a0_4 && (t555 == a0_5 && (t556 == a0_6))))) = true
                    · rw [if_pos c135] at H
                      have c135b0 : (t550 == a0_0 && ((t551 == a0_1 && (t552 == a0_2 && (t553 == a0_3))) && (t554 == a0_4 && (t555 == a0_5 && (t556 == a0_6))))) = true := c135
                      (try (have c135b1 : decide (t550 = a0_0 && ((t551 == a0_1 && (t552 == a0_2 && (t553 == a0_3))) && (t554 == a0_4 && (t555 == a0_5 && (t556 == a0_6))))) = true := by simpa using c135))
                      (try (have c135b2 : (t550 == a0_0 && ((t551 == a0_1 && (t552 == a0_2 && (t553 == a0_3))) && (t554 == a0_4 && (t555 == a0_5 && (t556 == a0_6))))) = true := by simpa using c135))
                      clear c135
                      obtain rfl := Option.some.inj H
                      have hnb136 := NB540_541.out
                      have hnc136 := NB541_540.out
                      have hnb137 := NB540_542.out
                      have hnc137 := NB542_540.out
                      have hcz138_0 : wc.cell? ⟨gb540, 0, none⟩ = some (.bool a0_0) := (blk_cell BK540.out 0).trans rfl
                      have hcz138_1 : wc.cell? ⟨gb540, 1, none⟩ = some (.int .i64 a0_1) := (blk_cell BK540.out 1).trans rfl
                      have hcz138_2 : wc.cell? ⟨gb540, 2, none⟩ = some (.int .i64 a0_2) := (blk_cell BK540.out 2).trans rfl
                      have hcz138_3 : wc.cell? ⟨gb540, 3, none⟩ = some (.int .i64 a0_3) := (blk_cell BK540.out 3).trans rfl
                      have hcz138_4 : wc.cell? ⟨gb540, 4, none⟩ = some (.int .i64 a0_4) := (blk_cell BK540.out 4).trans rfl
                      have hcz138_5 : wc.cell? ⟨gb540, 5, none⟩ = some (.int .i64 a0_5) := (blk_cell BK540.out 5).trans rfl
                      have hcz138_6 : wc.cell? ⟨gb540, 6, none⟩ = some (.int .i64 a0_6) := (blk_cell BK540.out 6).trans rfl
                      have hfz138_0 := blk_frozen BK540.out 0
                      have hfz138_1 := blk_frozen BK540.out 1
                      have hfz138_2 := blk_frozen BK540.out 2
                      have hfz138_3 := blk_frozen BK540.out 3
                      have hfz138_4 := blk_frozen BK540.out 4
                      have hfz138_5 := blk_frozen BK540.out 5
                      have hfz138_6 := blk_frozen BK540.out 6
                      have hnb139 := NB542_541.out
                      have hnc139 := NB541_542.out
                      have hcz140_0 : wc.cell? ⟨gb542, 0, none⟩ = some (.int .i64 a2_0) := (blk_cell BK542.out 0).trans rfl
                      have hcz140_1 : wc.cell? ⟨gb542, 1, none⟩ = some (.int .i64 a2_1) := (blk_cell BK542.out 1).trans rfl
                      have hcz140_2 : wc.cell? ⟨gb542, 2, none⟩ = some (.int .i64 a2_2) := (blk_cell BK542.out 2).trans rfl
                      have hcz140_3 : wc.cell? ⟨gb542, 3, none⟩ = some (.int .i64 (wrap64 (Int.tdiv (wrap64 (a3 + a4)) 10000))) := (blk_cell BK542.out 3).trans rfl
                      have hcz140_4 : wc.cell? ⟨gb542, 4, none⟩ = some (.int .i64 t544) := (blk_cell BK542.out 4).trans rfl
                      have hfz140_0 := blk_frozen BK542.out 0
                      have hfz140_1 := blk_frozen BK542.out 1
                      have hfz140_2 := blk_frozen BK542.out 2
                      have hfz140_3 := blk_frozen BK542.out 3
                      have hfz140_4 := blk_frozen BK542.out 4
                      go_wp2_with (first | ((with_reducible refine gate_callee (f := 12) rfl ?_); refine goesL_ (some 126) rfl rfl Try.func12 (by kernel_rfl) rfl #[.agg #[.bool a0_0, .int .i64 a0_1, .int .i64 a0_2, .int .i64 a0_3, .int .i64 a0_4, .int .i64 a0_5, .int .i64 a0_6], .agg #[.int .i64 a2_0, .int .i64 a2_1, .int .i64 a2_2, .int .i64 (wrap64 (Int.tdiv (wrap64 (a3 + a4)) 10000)), .int .i64 t544]] rfl (by (try simp only [List.map_toArray, List.map_cons, List.map_nil]); first | done | rfl | (simp only [List.length_drop, List.length_take]; rfl)) ?_; (with_reducible refine (timesync_Hear.calls kj50 a0_0 a0_1 a0_2 a0_3 a0_4 a0_5 a0_6 a2_0 a2_1 a2_2 (wrap64 (Int.tdiv (wrap64 (a3 + a4)) 10000)) t544 t550 t551 t552 t553 t554 t555 t556 t557 _ A112.out).mono ?_); rintro e w141 ⟨rfl, hb⟩; refine ⟨_, rfl, ?_⟩; have n0_ := Aside0.mk (blk_below (g := gb540) (o := .cells #[.bool a0_0, .int .i64 a0_1, .int .i64 a0_2, .int .i64 a0_3, .int .i64 a0_4, .int .i64 a0_5, .int .i64 a0_6] 25 (0, 0)) (by (with_reducible repeat (first | refine blk_drewN ?_ _ | refine blk_drew ?_ | refine blk_alloc ?_ _)); exact BK540.out) hb); have n1_ := Aside0.mk (blk_below (g := gb541) (o := .cells #[.int .i64 a1_0, .int .i64 a1_1] 47 (0, 0)) (by (with_reducible repeat (first | refine blk_drewN ?_ _ | refine blk_drew ?_ | refine blk_alloc ?_ _)); exact BK541.out) hb); have n2_ := Aside0.mk (blk_below (g := gb542) (o := .cells #[.int .i64 a2_0, .int .i64 a2_1, .int .i64 a2_2, .int .i64 (wrap64 (Int.tdiv (wrap64 (a3 + a4)) 10000)), .int .i64 t544] 27 (0, 0)) (by (with_reducible repeat (first | refine blk_drewN ?_ _ | refine blk_drew ?_ | refine blk_alloc ?_ _)); exact BK542.out) hb); have n3_ := Aside0.mk (below_step (by repeat (first | (with_reducible first | exact HB.out | apply below_alloc | apply pw_below_drewN | apply below_drew1 | refine below_set ?_ GE540.out | refine below_set ?_ GE541.out | refine below_set ?_ GE542.out) | exact HB.out)) hb); clear BK540; clear BK541; clear BK542; clear HB; have BK540 := n0_; have BK541 := n1_; have BK542 := n2_; have HB := n3_; clear n0_ n1_ n2_ n3_; (try clear hb); (try clear hb2); (try clear hk); (try clear hi)) | ((with_reducible refine gate_dst (N := 17) rfl ?_); refine box_event ?hg (N := 17) ?hd (cs := #[.bool false, .int .i64 0, .int .i64 0, .int .i64 0, .int .i64 0, .int .i64 0, .int .i64 0]) (t := 25) ?hr ?_; (case hd => rfl); (case hg => rfl); (case hr => first | (go_simp; done) | (go_simp; rfl)); intro gb558 hg w142 hbox hb; have n0_ := Aside0.mk (blk_below (g := gb540) (o := .cells #[.bool a0_0, .int .i64 a0_1, .int .i64 a0_2, .int .i64 a0_3, .int .i64 a0_4, .int .i64 a0_5, .int .i64 a0_6] 25 (0, 0)) (by (with_reducible repeat (first | refine blk_drewN ?_ _ | refine blk_drew ?_ | refine blk_alloc ?_ _)); exact BK540.out) hb); have n1_ := Aside0.mk (blk_below (g := gb541) (o := .cells #[.int .i64 a1_0, .int .i64 a1_1] 47 (0, 0)) (by (with_reducible repeat (first | refine blk_drewN ?_ _ | refine blk_drew ?_ | refine blk_alloc ?_ _)); exact BK541.out) hb); have n2_ := Aside0.mk (blk_below (g := gb542) (o := .cells #[.int .i64 a2_0, .int .i64 a2_1, .int .i64 a2_2, .int .i64 (wrap64 (Int.tdiv (wrap64 (a3 + a4)) 10000)), .int .i64 t544] 27 (0, 0)) (by (with_reducible repeat (first | refine blk_drewN ?_ _ | refine blk_drew ?_ | refine blk_alloc ?_ _)); exact BK542.out) hb); have n3_ := Aside0.mk (below_step (by repeat (first | (with_reducible first | exact HB.out | apply below_alloc | apply pw_below_drewN | apply below_drew1 | refine below_set ?_ GE540.out | refine below_set ?_ GE541.out | refine below_set ?_ GE542.out) | exact HB.out)) hb); have n4_ := Aside0.mk (hbox); have n5_ := Aside0.mk ((by rw [hg]; exact (below_size (by repeat (first | (with_reducible first | exact HB.out | apply below_alloc | apply pw_below_drewN | apply below_drew1 | refine below_set ?_ GE540.out | refine below_set ?_ GE541.out | refine below_set ?_ GE542.out) | exact HB.out))) : w.heap.size ≤ gb558)); have n6_ := Aside0.mk ((by rw [hg]; exact (below_size (by repeat (first | (with_reducible first | exact HB.out | apply below_alloc | apply pw_below_drewN | apply below_drew1 | refine below_set ?_ GE540.out | refine below_set ?_ GE541.out | refine below_set ?_ GE542.out) | exact HB.out))) : w.heap.size ≤ gb558)); have n7_ := Aside0.mk ((by rw [hg]; exact Nat.ne_of_lt (blk_lt (g := gb540) (o := .cells #[.bool a0_0, .int .i64 a0_1, .int .i64 a0_2, .int .i64 a0_3, .int .i64 a0_4, .int .i64 a0_5, .int .i64 a0_6] 25 (0, 0)) (by (with_reducible repeat (first | refine blk_drewN ?_ _ | refine blk_drew ?_ | refine blk_alloc ?_ _)); exact BK540.out)) : gb540 ≠ gb558)); have n8_ := Aside0.mk ((by rw [hg]; exact Nat.ne_of_gt (blk_lt (g := gb540) (o := .cells #[.bool a0_0, .int .i64 a0_1, .int .i64 a0_2, .int .i64 a0_3, .int .i64 a0_4, .int .i64 a0_5, .int .i64 a0_6] 25 (0, 0)) (by (with_reducible repeat (first | refine blk_drewN ?_ _ | refine blk_drew ?_ | refine blk_alloc ?_ _)); exact BK540.out)) : gb558 ≠ gb540)); have n9_ := Aside0.mk ((by rw [hg]; exact Nat.ne_of_lt (blk_lt (g := gb541) (o := .cells #[.int .i64 a1_0, .int .i64 a1_1] 47 (0, 0)) (by (with_reducible repeat (first | refine blk_drewN ?_ _ | refine blk_drew ?_ | refine blk_alloc ?_ _)); exact BK541.out)) : gb541 ≠ gb558)); have n10_ := Aside0.mk ((by rw [hg]; exact Nat.ne_of_gt (blk_lt (g := gb541) (o := .cells #[.int .i64 a1_0, .int .i64 a1_1] 47 (0, 0)) (by (with_reducible repeat (first | refine blk_drewN ?_ _ | refine blk_drew ?_ | refine blk_alloc ?_ _)); exact BK541.out)) : gb558 ≠ gb541)); have n11_ := Aside0.mk ((by rw [hg]; exact Nat.ne_of_lt (blk_lt (g := gb542) (o := .cells #[.int .i64 a2_0, .int .i64 a2_1, .int .i64 a2_2, .int .i64 (wrap64 (Int.tdiv (wrap64 (a3 + a4)) 10000)), .int .i64 t544] 27 (0, 0)) (by (with_reducible repeat (first | refine blk_drewN ?_ _ | refine blk_drew ?_ | refine blk_alloc ?_ _)); exact BK542.out)) : gb542 ≠ gb558)); have n12_ := Aside0.mk ((by rw [hg]; exact Nat.ne_of_gt (blk_lt (g := gb542) (o := .cells #[.int .i64 a2_0, .int .i64 a2_1, .int .i64 a2_2, .int .i64 (wrap64 (Int.tdiv (wrap64 (a3 + a4)) 10000)), .int .i64 t544] 27 (0, 0)) (by (with_reducible repeat (first | refine blk_drewN ?_ _ | refine blk_drew ?_ | refine blk_alloc ?_ _)); exact BK542.out)) : gb558 ≠ gb542)); clear BK540; clear BK541; clear BK542; clear HB; have BK540 := n0_; have BK541 := n1_; have BK542 := n2_; have HB := n3_; have BK558 := n4_; have GW558 := n5_; have GE558 := n6_; have NB540_558 := n7_; have NB558_540 := n8_; have NB541_558 := n9_; have NB558_541 := n10_; have NB542_558 := n11_; have NB558_542 := n12_; clear n0_ n1_ n2_ n3_ n4_ n5_ n6_ n7_ n8_ n9_ n10_ n11_ n12_; clear hb hbox hg; have hnb143 := NB558_540.out; have hnc143 := NB540_558.out; have hnb144 := NB558_541.out; have hnc144 := NB541_558.out; have hnb145 := NB558_542.out; have hnc145 := NB542_558.out; have hcz146_0 : w142.cell? ⟨gb558, 0, none⟩ = some (.bool false) := (blk_cell BK558.out 0).trans rfl; have hcz146_1 : w142.cell? ⟨gb558, 1, none⟩ = some (.int .i64 0) := (blk_cell BK558.out 1).trans rfl; have hcz146_2 : w142.cell? ⟨gb558, 2, none⟩ = some (.int .i64 0) := (blk_cell BK558.out 2).trans rfl; have hcz146_3 : w142.cell? ⟨gb558, 3, none⟩ = some (.int .i64 0) := (blk_cell BK558.out 3).trans rfl; have hcz146_4 : w142.cell? ⟨gb558, 4, none⟩ = some (.int .i64 0) := (blk_cell BK558.out 4).trans rfl; have hcz146_5 : w142.cell? ⟨gb558, 5, none⟩ = some (.int .i64 0) := (blk_cell BK558.out 5).trans rfl; have hcz146_6 : w142.cell? ⟨gb558, 6, none⟩ = some (.int .i64 0) := (blk_cell BK558.out 6).trans rfl; have hfz146_0 := blk_frozen BK558.out 0; have hfz146_1 := blk_frozen BK558.out 1; have hfz146_2 := blk_frozen BK558.out 2; have hfz146_3 := blk_frozen BK558.out 3; have hfz146_4 := blk_frozen BK558.out 4; have hfz146_5 := blk_frozen BK558.out 5; have hfz146_6 := blk_frozen BK558.out 6; have hcz147_0 : w142.cell? ⟨gb540, 0, none⟩ = some (.bool a0_0) := (blk_cell BK540.out 0).trans rfl; have hcz147_1 : w142.cell? ⟨gb540, 1, none⟩ = some (.int .i64 a0_1) := (blk_cell BK540.out 1).trans rfl; have hcz147_2 : w142.cell? ⟨gb540, 2, none⟩ = some (.int .i64 a0_2) := (blk_cell BK540.out 2).trans rfl; have hcz147_3 : w142.cell? ⟨gb540, 3, none⟩ = some (.int .i64 a0_3) := (blk_cell BK540.out 3).trans rfl; have hcz147_4 : w142.cell? ⟨gb540, 4, none⟩ = some (.int .i64 a0_4) := (blk_cell BK540.out 4).trans rfl; have hcz147_5 : w142.cell? ⟨gb540, 5, none⟩ = some (.int .i64 a0_5) := (blk_cell BK540.out 5).trans rfl; have hcz147_6 : w142.cell? ⟨gb540, 6, none⟩ = some (.int .i64 a0_6) := (blk_cell BK540.out 6).trans rfl; have hfz147_0 := blk_frozen BK540.out 0; have hfz147_1 := blk_frozen BK540.out 1; have hfz147_2 := blk_frozen BK540.out 2; have hfz147_3 := blk_frozen BK540.out 3; have hfz147_4 := blk_frozen BK540.out 4; have hfz147_5 := blk_frozen BK540.out 5; have hfz147_6 := blk_frozen BK540.out 6; have hcz148_0 : w142.cell? ⟨gb542, 0, none⟩ = some (.int .i64 a2_0) := (blk_cell BK542.out 0).trans rfl; have hcz148_1 : w142.cell? ⟨gb542, 1, none⟩ = some (.int .i64 a2_1) := (blk_cell BK542.out 1).trans rfl; have hcz148_2 : w142.cell? ⟨gb542, 2, none⟩ = some (.int .i64 a2_2) := (blk_cell BK542.out 2).trans rfl; have hcz148_3 : w142.cell? ⟨gb542, 3, none⟩ = some (.int .i64 (wrap64 (Int.tdiv (wrap64 (a3 + a4)) 10000))) := (blk_cell BK542.out 3).trans rfl; have hcz148_4 : w142.cell? ⟨gb542, 4, none⟩ = some (.int .i64 t544) := (blk_cell BK542.out 4).trans rfl; have hfz148_0 := blk_frozen BK542.out 0; have hfz148_1 := blk_frozen BK542.out 1; have hfz148_2 := blk_frozen BK542.out 2; have hfz148_3 := blk_frozen BK542.out 3; have hfz148_4 := blk_frozen BK542.out 4) | (go_at_call 27; (with_reducible refine (slotmeshref09_Takes.calls a0_0 a0_1 a0_2 a0_3 a0_4 a0_5 a0_6 a2_0 a2_1 a2_2 (wrap64 (Int.tdiv (wrap64 (a3 + a4)) 10000)) t544 false _ A115.out).mono ?_); rintro e w149 ⟨rfl, hb⟩; have n0_ := Aside0.mk (blk_below (g := gb540) (o := .cells #[.bool a0_0, .int .i64 a0_1, .int .i64 a0_2, .int .i64 a0_3, .int .i64 a0_4, .int .i64 a0_5, .int .i64 a0_6] 25 (0, 0)) (by (with_reducible repeat (first | refine blk_drewN ?_ _ | refine blk_drew ?_ | refine blk_alloc ?_ _)); refine blk_far ?_ NB540_558.out _; (with_reducible repeat (first | refine blk_drewN ?_ _ | refine blk_drew ?_ | refine blk_alloc ?_ _)); refine blk_far ?_ NB540_558.out _; (with_reducible repeat (first | refine blk_drewN ?_ _ | refine blk_drew ?_ | refine blk_alloc ?_ _)); refine blk_far ?_ NB540_558.out _; (with_reducible repeat (first | refine blk_drewN ?_ _ | refine blk_drew ?_ | refine blk_alloc ?_ _)); refine blk_far ?_ NB540_558.out _; (with_reducible repeat (first | refine blk_drewN ?_ _ | refine blk_drew ?_ | refine blk_alloc ?_ _)); refine blk_far ?_ NB540_558.out _; (with_reducible repeat (first | refine blk_drewN ?_ _ | refine blk_drew ?_ | refine blk_alloc ?_ _)); refine blk_far ?_ NB540_558.out _; (with_reducible repeat (first | refine blk_drewN ?_ _ | refine blk_drew ?_ | refine blk_alloc ?_ _)); refine blk_far ?_ NB540_558.out _; (with_reducible repeat (first | refine blk_drewN ?_ _ | refine blk_drew ?_ | refine blk_alloc ?_ _)); exact BK540.out) hb); have n1_ := Aside0.mk (blk_below (g := gb541) (o := .cells #[.int .i64 a1_0, .int .i64 a1_1] 47 (0, 0)) (by (with_reducible repeat (first | refine blk_drewN ?_ _ | refine blk_drew ?_ | refine blk_alloc ?_ _)); refine blk_far ?_ NB541_558.out _; (with_reducible repeat (first | refine blk_drewN ?_ _ | refine blk_drew ?_ | refine blk_alloc ?_ _)); refine blk_far ?_ NB541_558.out _; (with_reducible repeat (first | refine blk_drewN ?_ _ | refine blk_drew ?_ | refine blk_alloc ?_ _)); refine blk_far ?_ NB541_558.out _; (with_reducible repeat (first | refine blk_drewN ?_ _ | refine blk_drew ?_ | refine blk_alloc ?_ _)); refine blk_far ?_ NB541_558.out _; (with_reducible repeat (first | refine blk_drewN ?_ _ | refine blk_drew ?_ | refine blk_alloc ?_ _)); refine blk_far ?_ NB541_558.out _; (with_reducible repeat (first | refine blk_drewN ?_ _ | refine blk_drew ?_ | refine blk_alloc ?_ _)); refine blk_far ?_ NB541_558.out _; (with_reducible repeat (first | refine blk_drewN ?_ _ | refine blk_drew ?_ | refine blk_alloc ?_ _)); refine blk_far ?_ NB541_558.out _; (with_reducible repeat (first | refine blk_drewN ?_ _ | refine blk_drew ?_ | refine blk_alloc ?_ _)); exact BK541.out) hb); have n2_ := Aside0.mk (blk_below (g := gb542) (o := .cells #[.int .i64 a2_0, .int .i64 a2_1, .int .i64 a2_2, .int .i64 (wrap64 (Int.tdiv (wrap64 (a3 + a4)) 10000)), .int .i64 t544] 27 (0, 0)) (by (with_reducible repeat (first | refine blk_drewN ?_ _ | refine blk_drew ?_ | refine blk_alloc ?_ _)); refine blk_far ?_ NB542_558.out _; (with_reducible repeat (first | refine blk_drewN ?_ _ | refine blk_drew ?_ | refine blk_alloc ?_ _)); refine blk_far ?_ NB542_558.out _; (with_reducible repeat (first | refine blk_drewN ?_ _ | refine blk_drew ?_ | refine blk_alloc ?_ _)); refine blk_far ?_ NB542_558.out _; (with_reducible repeat (first | refine blk_drewN ?_ _ | refine blk_drew ?_ | refine blk_alloc ?_ _)); refine blk_far ?_ NB542_558.out _; (with_reducible repeat (first | refine blk_drewN ?_ _ | refine blk_drew ?_ | refine blk_alloc ?_ _)); refine blk_far ?_ NB542_558.out _; (with_reducible repeat (first | refine blk_drewN ?_ _ | refine blk_drew ?_ | refine blk_alloc ?_ _)); refine blk_far ?_ NB542_558.out _; (with_reducible repeat (first | refine blk_drewN ?_ _ | refine blk_drew ?_ | refine blk_alloc ?_ _)); refine blk_far ?_ NB542_558.out _; (with_reducible repeat (first | refine blk_drewN ?_ _ | refine blk_drew ?_ | refine blk_alloc ?_ _)); exact BK542.out) hb); have n3_ := Aside0.mk (blk_below (g := gb558) (o := .cells #[.bool t550, .int .i64 t551, .int .i64 t552, .int .i64 t553, .int .i64 t554, .int .i64 t555, .int .i64 t556] 25 (0, 0)) (by (with_reducible repeat (first | refine blk_drewN ?_ _ | refine blk_drew ?_ | refine blk_alloc ?_ _)); refine blk_put (cs := #[.bool t550, .int .i64 t551, .int .i64 t552, .int .i64 t553, .int .i64 t554, .int .i64 t555, .int .i64 0]) ?_ 6 _ rfl; (with_reducible repeat (first | refine blk_drewN ?_ _ | refine blk_drew ?_ | refine blk_alloc ?_ _)); refine blk_put (cs := #[.bool t550, .int .i64 t551, .int .i64 t552, .int .i64 t553, .int .i64 t554, .int .i64 0, .int .i64 0]) ?_ 5 _ rfl; (with_reducible repeat (first | refine blk_drewN ?_ _ | refine blk_drew ?_ | refine blk_alloc ?_ _)); refine blk_put (cs := #[.bool t550, .int .i64 t551, .int .i64 t552, .int .i64 t553, .int .i64 0, .int .i64 0, .int .i64 0]) ?_ 4 _ rfl; (with_reducible repeat (first | refine blk_drewN ?_ _ | refine blk_drew ?_ | refine blk_alloc ?_ _)); refine blk_put (cs := #[.bool t550, .int .i64 t551, .int .i64 t552, .int .i64 0, .int .i64 0, .int .i64 0, .int .i64 0]) ?_ 3 _ rfl; (with_reducible repeat (first | refine blk_drewN ?_ _ | refine blk_drew ?_ | refine blk_alloc ?_ _)); refine blk_put (cs := #[.bool t550, .int .i64 t551, .int .i64 0, .int .i64 0, .int .i64 0, .int .i64 0, .int .i64 0]) ?_ 2 _ rfl; (with_reducible repeat (first | refine blk_drewN ?_ _ | refine blk_drew ?_ | refine blk_alloc ?_ _)); refine blk_put (cs := #[.bool t550, .int .i64 0, .int .i64 0, .int .i64 0, .int .i64 0, .int .i64 0, .int .i64 0]) ?_ 1 _ rfl; (with_reducible repeat (first | refine blk_drewN ?_ _ | refine blk_drew ?_ | refine blk_alloc ?_ _)); refine blk_put (cs := #[.bool false, .int .i64 0, .int .i64 0, .int .i64 0, .int .i64 0, .int .i64 0, .int .i64 0]) ?_ 0 _ rfl; (with_reducible repeat (first | refine blk_drewN ?_ _ | refine blk_drew ?_ | refine blk_alloc ?_ _)); exact BK558.out) hb); have n4_ := Aside0.mk (below_step (by repeat (first | (with_reducible first | exact HB.out | apply below_alloc | apply pw_below_drewN | apply below_drew1 | refine below_set ?_ GE540.out | refine below_set ?_ GE541.out | refine below_set ?_ GE542.out | refine below_set ?_ GE558.out) | exact HB.out)) hb); clear BK540; clear BK541; clear BK542; clear BK558; clear HB; have BK540 := n0_; have BK541 := n1_; have BK542 := n2_; have BK558 := n3_; have HB := n4_; clear n0_ n1_ n2_ n3_ n4_; (try clear hb); (try clear hb2); (try clear hk); (try clear hi); have hcz150_0 : w149.cell? ⟨gb558, 0, none⟩ = some (.bool t550) := (blk_cell BK558.out 0).trans rfl; have hcz150_1 : w149.cell? ⟨gb558, 1, none⟩ = some (.int .i64 t551) := (blk_cell BK558.out 1).trans rfl; have hcz150_2 : w149.cell? ⟨gb558, 2, none⟩ = some (.int .i64 t552) := (blk_cell BK558.out 2).trans rfl; have hcz150_3 : w149.cell? ⟨gb558, 3, none⟩ = some (.int .i64 t553) := (blk_cell BK558.out 3).trans rfl; have hcz150_4 : w149.cell? ⟨gb558, 4, none⟩ = some (.int .i64 t554) := (blk_cell BK558.out 4).trans rfl; have hcz150_5 : w149.cell? ⟨gb558, 5, none⟩ = some (.int .i64 t555) := (blk_cell BK558.out 5).trans rfl; have hcz150_6 : w149.cell? ⟨gb558, 6, none⟩ = some (.int .i64 t556) := (blk_cell BK558.out 6).trans rfl; have hfz150_0 := blk_frozen BK558.out 0; have hfz150_1 := blk_frozen BK558.out 1; have hfz150_2 := blk_frozen BK558.out 2; have hfz150_3 := blk_frozen BK558.out 3; have hfz150_4 := blk_frozen BK558.out 4; have hfz150_5 := blk_frozen BK558.out 5; have hfz150_6 := blk_frozen BK558.out 6; have hcz151_0 : w149.cell? ⟨gb540, 0, none⟩ = some (.bool a0_0) := (blk_cell BK540.out 0).trans rfl; have hcz151_1 : w149.cell? ⟨gb540, 1, none⟩ = some (.int .i64 a0_1) := (blk_cell BK540.out 1).trans rfl; have hcz151_2 : w149.cell? ⟨gb540, 2, none⟩ = some (.int .i64 a0_2) := (blk_cell BK540.out 2).trans rfl; have hcz151_3 : w149.cell? ⟨gb540, 3, none⟩ = some (.int .i64 a0_3) := (blk_cell BK540.out 3).trans rfl; have hcz151_4 : w149.cell? ⟨gb540, 4, none⟩ = some (.int .i64 a0_4) := (blk_cell BK540.out 4).trans rfl; have hcz151_5 : w149.cell? ⟨gb540, 5, none⟩ = some (.int .i64 a0_5) := (blk_cell BK540.out 5).trans rfl; have hcz151_6 : w149.cell? ⟨gb540, 6, none⟩ = some (.int .i64 a0_6) := (blk_cell BK540.out 6).trans rfl; have hfz151_0 := blk_frozen BK540.out 0; have hfz151_1 := blk_frozen BK540.out 1; have hfz151_2 := blk_frozen BK540.out 2; have hfz151_3 := blk_frozen BK540.out 3; have hfz151_4 := blk_frozen BK540.out 4; have hfz151_5 := blk_frozen BK540.out 5; have hfz151_6 := blk_frozen BK540.out 6))
                      go_ret
                      exact ⟨by first | rfl | (simp [errW_none, errW_some] <;> rfl) | (simp [*, errW_none, errW_some] <;> rfl), by repeat (first | (with_reducible first | exact HB.out | apply below_alloc | apply pw_below_drewN | apply below_drew1 | refine below_set ?_ GE540.out | refine below_set ?_ GE541.out | refine below_set ?_ GE542.out | refine below_set ?_ GE558.out) | exact HB.out)⟩
                    · rw [if_neg c135] at H
                      have c135b0 : (t550 == a0_0 && ((t551 == a0_1 && (t552 == a0_2 && (t553 == a0_3))) && (t554 == a0_4 && (t555 == a0_5 && (t556 == a0_6))))) = false := by simpa using c135
                      (try (have c135b1 : decide (t550 = a0_0 && ((t551 == a0_1 && (t552 == a0_2 && (t553 == a0_3))) && (t554 == a0_4 && (t555 == a0_5 && (t556 == a0_6))))) = false := by simpa using c135))
                      (try (have c135b2 : (t550 == a0_0 && ((t551 == a0_1 && (t552 == a0_2 && (t553 == a0_3))) && (t554 == a0_4 && (t555 == a0_5 && (t556 == a0_6))))) = false := by simpa using c135))
                      (try (have c135b3 : ¬ (t550 = a0_0 && ((t551 == a0_1 && (t552 == a0_2 && (t553 == a0_3))) && (t554 == a0_4 && (t555 == a0_5 && (t556 == a0_6))))) := by simpa using c135))
                      clear c135
                      replace H := Option.bind_eq_some_iff.mp H
                      obtain ⟨t561, A1520, H⟩ := H
                      replace H : (some t561) = some r := H
                      have A152 := Aside0.mk A1520
                      clear A1520
                      obtain rfl := Option.some.inj H
                      have hnb153 := NB540_541.out
                      have hnc153 := NB541_540.out
                      have hnb154 := NB540_542.out
                      have hnc154 := NB542_540.out
                      have hcz155_0 : wc.cell? ⟨gb540, 0, none⟩ = some (.bool a0_0) := (blk_cell BK540.out 0).trans rfl
                      have hcz155_1 : wc.cell? ⟨gb540, 1, none⟩ = some (.int .i64 a0_1) := (blk_cell BK540.out 1).trans rfl
                      have hcz155_2 : wc.cell? ⟨gb540, 2, none⟩ = some (.int .i64 a0_2) := (blk_cell BK540.out 2).trans rfl
                      have hcz155_3 : wc.cell? ⟨gb540, 3, none⟩ = some (.int .i64 a0_3) := (blk_cell BK540.out 3).trans rfl
                      have hcz155_4 : wc.cell? ⟨gb540, 4, none⟩ = some (.int .i64 a0_4) := (blk_cell BK540.out 4).trans rfl
                      have hcz155_5 : wc.cell? ⟨gb540, 5, none⟩ = some (.int .i64 a0_5) := (blk_cell BK540.out 5).trans rfl
                      have hcz155_6 : wc.cell? ⟨gb540, 6, none⟩ = some (.int .i64 a0_6) := (blk_cell BK540.out 6).trans rfl
                      have hfz155_0 := blk_frozen BK540.out 0
                      have hfz155_1 := blk_frozen BK540.out 1
                      have hfz155_2 := blk_frozen BK540.out 2
                      have hfz155_3 := blk_frozen BK540.out 3
                      have hfz155_4 := blk_frozen BK540.out 4
                      have hfz155_5 := blk_frozen BK540.out 5
                      have hfz155_6 := blk_frozen BK540.out 6
                      have hnb156 := NB542_541.out
                      have hnc156 := NB541_542.out
                      have hcz157_0 : wc.cell? ⟨gb542, 0, none⟩ = some (.int .i64 a2_0) := (blk_cell BK542.out 0).trans rfl
                      have hcz157_1 : wc.cell? ⟨gb542, 1, none⟩ = some (.int .i64 a2_1) := (blk_cell BK542.out 1).trans rfl
                      have hcz157_2 : wc.cell? ⟨gb542, 2, none⟩ = some (.int .i64 a2_2) := (blk_cell BK542.out 2).trans rfl
                      have hcz157_3 : wc.cell? ⟨gb542, 3, none⟩ = some (.int .i64 (wrap64 (Int.tdiv (wrap64 (a3 + a4)) 10000))) := (blk_cell BK542.out 3).trans rfl
                      have hcz157_4 : wc.cell? ⟨gb542, 4, none⟩ = some (.int .i64 t544) := (blk_cell BK542.out 4).trans rfl
                      have hfz157_0 := blk_frozen BK542.out 0
                      have hfz157_1 := blk_frozen BK542.out 1
                      have hfz157_2 := blk_frozen BK542.out 2
                      have hfz157_3 := blk_frozen BK542.out 3
                      have hfz157_4 := blk_frozen BK542.out 4
                      go_wp2_with (first | ((with_reducible refine gate_callee (f := 12) rfl ?_); refine goesL_ (some 126) rfl rfl Try.func12 (by kernel_rfl) rfl #[.agg #[.bool a0_0, .int .i64 a0_1, .int .i64 a0_2, .int .i64 a0_3, .int .i64 a0_4, .int .i64 a0_5, .int .i64 a0_6], .agg #[.int .i64 a2_0, .int .i64 a2_1, .int .i64 a2_2, .int .i64 (wrap64 (Int.tdiv (wrap64 (a3 + a4)) 10000)), .int .i64 t544]] rfl (by (try simp only [List.map_toArray, List.map_cons, List.map_nil]); first | done | rfl | (simp only [List.length_drop, List.length_take]; rfl)) ?_; (with_reducible refine (timesync_Hear.calls kj50 a0_0 a0_1 a0_2 a0_3 a0_4 a0_5 a0_6 a2_0 a2_1 a2_2 (wrap64 (Int.tdiv (wrap64 (a3 + a4)) 10000)) t544 t550 t551 t552 t553 t554 t555 t556 t557 _ A112.out).mono ?_); rintro e w158 ⟨rfl, hb⟩; refine ⟨_, rfl, ?_⟩; have n0_ := Aside0.mk (blk_below (g := gb540) (o := .cells #[.bool a0_0, .int .i64 a0_1, .int .i64 a0_2, .int .i64 a0_3, .int .i64 a0_4, .int .i64 a0_5, .int .i64 a0_6] 25 (0, 0)) (by (with_reducible repeat (first | refine blk_drewN ?_ _ | refine blk_drew ?_ | refine blk_alloc ?_ _)); exact BK540.out) hb); have n1_ := Aside0.mk (blk_below (g := gb541) (o := .cells #[.int .i64 a1_0, .int .i64 a1_1] 47 (0, 0)) (by (with_reducible repeat (first | refine blk_drewN ?_ _ | refine blk_drew ?_ | refine blk_alloc ?_ _)); exact BK541.out) hb); have n2_ := Aside0.mk (blk_below (g := gb542) (o := .cells #[.int .i64 a2_0, .int .i64 a2_1, .int .i64 a2_2, .int .i64 (wrap64 (Int.tdiv (wrap64 (a3 + a4)) 10000)), .int .i64 t544] 27 (0, 0)) (by (with_reducible repeat (first | refine blk_drewN ?_ _ | refine blk_drew ?_ | refine blk_alloc ?_ _)); exact BK542.out) hb); have n3_ := Aside0.mk (below_step (by repeat (first | (with_reducible first | exact HB.out | apply below_alloc | apply pw_below_drewN | apply below_drew1 | refine below_set ?_ GE540.out | refine below_set ?_ GE541.out | refine below_set ?_ GE542.out) | exact HB.out)) hb); clear BK540; clear BK541; clear BK542; clear HB; have BK540 := n0_; have BK541 := n1_; have BK542 := n2_; have HB := n3_; clear n0_ n1_ n2_ n3_; (try clear hb); (try clear hb2); (try clear hk); (try clear hi)) | ((with_reducible refine gate_dst (N := 17) rfl ?_); refine box_event ?hg (N := 17) ?hd (cs := #[.bool false, .int .i64 0, .int .i64 0, .int .i64 0, .int .i64 0, .int .i64 0, .int .i64 0]) (t := 25) ?hr ?_; (case hd => rfl); (case hg => rfl); (case hr => first | (go_simp; done) | (go_simp; rfl)); intro gb558 hg w159 hbox hb; have n0_ := Aside0.mk (blk_below (g := gb540) (o := .cells #[.bool a0_0, .int .i64 a0_1, .int .i64 a0_2, .int .i64 a0_3, .int .i64 a0_4, .int .i64 a0_5, .int .i64 a0_6] 25 (0, 0)) (by (with_reducible repeat (first | refine blk_drewN ?_ _ | refine blk_drew ?_ | refine blk_alloc ?_ _)); exact BK540.out) hb); have n1_ := Aside0.mk (blk_below (g := gb541) (o := .cells #[.int .i64 a1_0, .int .i64 a1_1] 47 (0, 0)) (by (with_reducible repeat (first | refine blk_drewN ?_ _ | refine blk_drew ?_ | refine blk_alloc ?_ _)); exact BK541.out) hb); have n2_ := Aside0.mk (blk_below (g := gb542) (o := .cells #[.int .i64 a2_0, .int .i64 a2_1, .int .i64 a2_2, .int .i64 (wrap64 (Int.tdiv (wrap64 (a3 + a4)) 10000)), .int .i64 t544] 27 (0, 0)) (by (with_reducible repeat (first | refine blk_drewN ?_ _ | refine blk_drew ?_ | refine blk_alloc ?_ _)); exact BK542.out) hb); have n3_ := Aside0.mk (below_step (by repeat (first | (with_reducible first | exact HB.out | apply below_alloc | apply pw_below_drewN | apply below_drew1 | refine below_set ?_ GE540.out | refine below_set ?_ GE541.out | refine below_set ?_ GE542.out) | exact HB.out)) hb); have n4_ := Aside0.mk (hbox); have n5_ := Aside0.mk ((by rw [hg]; exact (below_size (by repeat (first | (with_reducible first | exact HB.out | apply below_alloc | apply pw_below_drewN | apply below_drew1 | refine below_set ?_ GE540.out | refine below_set ?_ GE541.out | refine below_set ?_ GE542.out) | exact HB.out))) : w.heap.size ≤ gb558)); have n6_ := Aside0.mk ((by rw [hg]; exact (below_size (by repeat (first | (with_reducible first | exact HB.out | apply below_alloc | apply pw_below_drewN | apply below_drew1 | refine below_set ?_ GE540.out | refine below_set ?_ GE541.out | refine below_set ?_ GE542.out) | exact HB.out))) : w.heap.size ≤ gb558)); have n7_ := Aside0.mk ((by rw [hg]; exact Nat.ne_of_lt (blk_lt (g := gb540) (o := .cells #[.bool a0_0, .int .i64 a0_1, .int .i64 a0_2, .int .i64 a0_3, .int .i64 a0_4, .int .i64 a0_5, .int .i64 a0_6] 25 (0, 0)) (by (with_reducible repeat (first | refine blk_drewN ?_ _ | refine blk_drew ?_ | refine blk_alloc ?_ _)); exact BK540.out)) : gb540 ≠ gb558)); have n8_ := Aside0.mk ((by rw [hg]; exact Nat.ne_of_gt (blk_lt (g := gb540) (o := .cells #[.bool a0_0, .int .i64 a0_1, .int .i64 a0_2, .int .i64 a0_3, .int .i64 a0_4, .int .i64 a0_5, .int .i64 a0_6] 25 (0, 0)) (by (with_reducible repeat (first | refine blk_drewN ?_ _ | refine blk_drew ?_ | refine blk_alloc ?_ _)); exact BK540.out)) : gb558 ≠ gb540)); have n9_ := Aside0.mk ((by rw [hg]; exact Nat.ne_of_lt (blk_lt (g := gb541) (o := .cells #[.int .i64 a1_0, .int .i64 a1_1] 47 (0, 0)) (by (with_reducible repeat (first | refine blk_drewN ?_ _ | refine blk_drew ?_ | refine blk_alloc ?_ _)); exact BK541.out)) : gb541 ≠ gb558)); have n10_ := Aside0.mk ((by rw [hg]; exact Nat.ne_of_gt (blk_lt (g := gb541) (o := .cells #[.int .i64 a1_0, .int .i64 a1_1] 47 (0, 0)) (by (with_reducible repeat (first | refine blk_drewN ?_ _ | refine blk_drew ?_ | refine blk_alloc ?_ _)); exact BK541.out)) : gb558 ≠ gb541)); have n11_ := Aside0.mk ((by rw [hg]; exact Nat.ne_of_lt (blk_lt (g := gb542) (o := .cells #[.int .i64 a2_0, .int .i64 a2_1, .int .i64 a2_2, .int .i64 (wrap64 (Int.tdiv (wrap64 (a3 + a4)) 10000)), .int .i64 t544] 27 (0, 0)) (by (with_reducible repeat (first | refine blk_drewN ?_ _ | refine blk_drew ?_ | refine blk_alloc ?_ _)); exact BK542.out)) : gb542 ≠ gb558)); have n12_ := Aside0.mk ((by rw [hg]; exact Nat.ne_of_gt (blk_lt (g := gb542) (o := .cells #[.int .i64 a2_0, .int .i64 a2_1, .int .i64 a2_2, .int .i64 (wrap64 (Int.tdiv (wrap64 (a3 + a4)) 10000)), .int .i64 t544] 27 (0, 0)) (by (with_reducible repeat (first | refine blk_drewN ?_ _ | refine blk_drew ?_ | refine blk_alloc ?_ _)); exact BK542.out)) : gb558 ≠ gb542)); clear BK540; clear BK541; clear BK542; clear HB; have BK540 := n0_; have BK541 := n1_; have BK542 := n2_; have HB := n3_; have BK558 := n4_; have GW558 := n5_; have GE558 := n6_; have NB540_558 := n7_; have NB558_540 := n8_; have NB541_558 := n9_; have NB558_541 := n10_; have NB542_558 := n11_; have NB558_542 := n12_; clear n0_ n1_ n2_ n3_ n4_ n5_ n6_ n7_ n8_ n9_ n10_ n11_ n12_; clear hb hbox hg; have hnb160 := NB558_540.out; have hnc160 := NB540_558.out; have hnb161 := NB558_541.out; have hnc161 := NB541_558.out; have hnb162 := NB558_542.out; have hnc162 := NB542_558.out; have hcz163_0 : w159.cell? ⟨gb558, 0, none⟩ = some (.bool false) := (blk_cell BK558.out 0).trans rfl; have hcz163_1 : w159.cell? ⟨gb558, 1, none⟩ = some (.int .i64 0) := (blk_cell BK558.out 1).trans rfl; have hcz163_2 : w159.cell? ⟨gb558, 2, none⟩ = some (.int .i64 0) := (blk_cell BK558.out 2).trans rfl; have hcz163_3 : w159.cell? ⟨gb558, 3, none⟩ = some (.int .i64 0) := (blk_cell BK558.out 3).trans rfl; have hcz163_4 : w159.cell? ⟨gb558, 4, none⟩ = some (.int .i64 0) := (blk_cell BK558.out 4).trans rfl; have hcz163_5 : w159.cell? ⟨gb558, 5, none⟩ = some (.int .i64 0) := (blk_cell BK558.out 5).trans rfl; have hcz163_6 : w159.cell? ⟨gb558, 6, none⟩ = some (.int .i64 0) := (blk_cell BK558.out 6).trans rfl; have hfz163_0 := blk_frozen BK558.out 0; have hfz163_1 := blk_frozen BK558.out 1; have hfz163_2 := blk_frozen BK558.out 2; have hfz163_3 := blk_frozen BK558.out 3; have hfz163_4 := blk_frozen BK558.out 4; have hfz163_5 := blk_frozen BK558.out 5; have hfz163_6 := blk_frozen BK558.out 6; have hcz164_0 : w159.cell? ⟨gb540, 0, none⟩ = some (.bool a0_0) := (blk_cell BK540.out 0).trans rfl; have hcz164_1 : w159.cell? ⟨gb540, 1, none⟩ = some (.int .i64 a0_1) := (blk_cell BK540.out 1).trans rfl; have hcz164_2 : w159.cell? ⟨gb540, 2, none⟩ = some (.int .i64 a0_2) := (blk_cell BK540.out 2).trans rfl; have hcz164_3 : w159.cell? ⟨gb540, 3, none⟩ = some (.int .i64 a0_3) := (blk_cell BK540.out 3).trans rfl; have hcz164_4 : w159.cell? ⟨gb540, 4, none⟩ = some (.int .i64 a0_4) := (blk_cell BK540.out 4).trans rfl; have hcz164_5 : w159.cell? ⟨gb540, 5, none⟩ = some (.int .i64 a0_5) := (blk_cell BK540.out 5).trans rfl; have hcz164_6 : w159.cell? ⟨gb540, 6, none⟩ = some (.int .i64 a0_6) := (blk_cell BK540.out 6).trans rfl; have hfz164_0 := blk_frozen BK540.out 0; have hfz164_1 := blk_frozen BK540.out 1; have hfz164_2 := blk_frozen BK540.out 2; have hfz164_3 := blk_frozen BK540.out 3; have hfz164_4 := blk_frozen BK540.out 4; have hfz164_5 := blk_frozen BK540.out 5; have hfz164_6 := blk_frozen BK540.out 6; have hcz165_0 : w159.cell? ⟨gb542, 0, none⟩ = some (.int .i64 a2_0) := (blk_cell BK542.out 0).trans rfl; have hcz165_1 : w159.cell? ⟨gb542, 1, none⟩ = some (.int .i64 a2_1) := (blk_cell BK542.out 1).trans rfl; have hcz165_2 : w159.cell? ⟨gb542, 2, none⟩ = some (.int .i64 a2_2) := (blk_cell BK542.out 2).trans rfl; have hcz165_3 : w159.cell? ⟨gb542, 3, none⟩ = some (.int .i64 (wrap64 (Int.tdiv (wrap64 (a3 + a4)) 10000))) := (blk_cell BK542.out 3).trans rfl; have hcz165_4 : w159.cell? ⟨gb542, 4, none⟩ = some (.int .i64 t544) := (blk_cell BK542.out 4).trans rfl; have hfz165_0 := blk_frozen BK542.out 0; have hfz165_1 := blk_frozen BK542.out 1; have hfz165_2 := blk_frozen BK542.out 2; have hfz165_3 := blk_frozen BK542.out 3; have hfz165_4 := blk_frozen BK542.out 4) | (go_at_call 27; (with_reducible refine (slotmeshref09_Takes.calls a0_0 a0_1 a0_2 a0_3 a0_4 a0_5 a0_6 a2_0 a2_1 a2_2 (wrap64 (Int.tdiv (wrap64 (a3 + a4)) 10000)) t544 false _ A115.out).mono ?_); rintro e w166 ⟨rfl, hb⟩; have n0_ := Aside0.mk (blk_below (g := gb540) (o := .cells #[.bool a0_0, .int .i64 a0_1, .int .i64 a0_2, .int .i64 a0_3, .int .i64 a0_4, .int .i64 a0_5, .int .i64 a0_6] 25 (0, 0)) (by (with_reducible repeat (first | refine blk_drewN ?_ _ | refine blk_drew ?_ | refine blk_alloc ?_ _)); refine blk_far ?_ NB540_558.out _; (with_reducible repeat (first | refine blk_drewN ?_ _ | refine blk_drew ?_ | refine blk_alloc ?_ _)); refine blk_far ?_ NB540_558.out _; (with_reducible repeat (first | refine blk_drewN ?_ _ | refine blk_drew ?_ | refine blk_alloc ?_ _)); refine blk_far ?_ NB540_558.out _; (with_reducible repeat (first | refine blk_drewN ?_ _ | refine blk_drew ?_ | refine blk_alloc ?_ _)); refine blk_far ?_ NB540_558.out _; (with_reducible repeat (first | refine blk_drewN ?_ _ | refine blk_drew ?_ | refine blk_alloc ?_ _)); refine blk_far ?_ NB540_558.out _; (with_reducible repeat (first | refine blk_drewN ?_ _ | refine blk_drew ?_ | refine blk_alloc ?_ _)); refine blk_far ?_ NB540_558.out _; (with_reducible repeat (first | refine blk_drewN ?_ _ | refine blk_drew ?_ | refine blk_alloc ?_ _)); refine blk_far ?_ NB540_558.out _; (with_reducible repeat (first | refine blk_drewN ?_ _ | refine blk_drew ?_ | refine blk_alloc ?_ _)); exact BK540.out) hb); have n1_ := Aside0.mk (blk_below (g := gb541) (o := .cells #[.int .i64 a1_0, .int .i64 a1_1] 47 (0, 0)) (by (with_reducible repeat (first | refine blk_drewN ?_ _ | refine blk_drew ?_ | refine blk_alloc ?_ _)); refine blk_far ?_ NB541_558.out _; (with_reducible repeat (first | refine blk_drewN ?_ _ | refine blk_drew ?_ | refine blk_alloc ?_ _)); refine blk_far ?_ NB541_558.out _; (with_reducible repeat (first | refine blk_drewN ?_ _ | refine blk_drew ?_ | refine blk_alloc ?_ _)); refine blk_far ?_ NB541_558.out _; (with_reducible repeat (first | refine blk_drewN ?_ _ | refine blk_drew ?_ | refine blk_alloc ?_ _)); refine blk_far ?_ NB541_558.out _; (with_reducible repeat (first | refine blk_drewN ?_ _ | refine blk_drew ?_ | refine blk_alloc ?_ _)); refine blk_far ?_ NB541_558.out _; (with_reducible repeat (first | refine blk_drewN ?_ _ | refine blk_drew ?_ | refine blk_alloc ?_ _)); refine blk_far ?_ NB541_558.out _; (with_reducible repeat (first | refine blk_drewN ?_ _ | refine blk_drew ?_ | refine blk_alloc ?_ _)); refine blk_far ?_ NB541_558.out _; (with_reducible repeat (first | refine blk_drewN ?_ _ | refine blk_drew ?_ | refine blk_alloc ?_ _)); exact BK541.out) hb); have n2_ := Aside0.mk (blk_below (g := gb542) (o := .cells #[.int .i64 a2_0, .int .i64 a2_1, .int .i64 a2_2, .int .i64 (wrap64 (Int.tdiv (wrap64 (a3 + a4)) 10000)), .int .i64 t544] 27 (0, 0)) (by (with_reducible repeat (first | refine blk_drewN ?_ _ | refine blk_drew ?_ | refine blk_alloc ?_ _)); refine blk_far ?_ NB542_558.out _; (with_reducible repeat (first | refine blk_drewN ?_ _ | refine blk_drew ?_ | refine blk_alloc ?_ _)); refine blk_far ?_ NB542_558.out _; (with_reducible repeat (first | refine blk_drewN ?_ _ | refine blk_drew ?_ | refine blk_alloc ?_ _)); refine blk_far ?_ NB542_558.out _; (with_reducible repeat (first | refine blk_drewN ?_ _ | refine blk_drew ?_ | refine blk_alloc ?_ _)); refine blk_far ?_ NB542_558.out _; (with_reducible repeat (first | refine blk_drewN ?_ _ | refine blk_drew ?_ | refine blk_alloc ?_ _)); refine blk_far ?_ NB542_558.out _; (with_reducible repeat (first | refine blk_drewN ?_ _ | refine blk_drew ?_ | refine blk_alloc ?_ _)); refine blk_far ?_ NB542_558.out _; (with_reducible repeat (first | refine blk_drewN ?_ _ | refine blk_drew ?_ | refine blk_alloc ?_ _)); refine blk_far ?_ NB542_558.out _; (with_reducible repeat (first | refine blk_drewN ?_ _ | refine blk_drew ?_ | refine blk_alloc ?_ _)); exact BK542.out) hb); have n3_ := Aside0.mk (blk_below (g := gb558) (o := .cells #[.bool t550, .int .i64 t551, .int .i64 t552, .int .i64 t553, .int .i64 t554, .int .i64 t555, .int .i64 t556] 25 (0, 0)) (by (with_reducible repeat (first | refine blk_drewN ?_ _ | refine blk_drew ?_ | refine blk_alloc ?_ _)); refine blk_put (cs := #[.bool t550, .int .i64 t551, .int .i64 t552, .int .i64 t553, .int .i64 t554, .int .i64 t555, .int .i64 0]) ?_ 6 _ rfl; (with_reducible repeat (first | refine blk_drewN ?_ _ | refine blk_drew ?_ | refine blk_alloc ?_ _)); refine blk_put (cs := #[.bool t550, .int .i64 t551, .int .i64 t552, .int .i64 t553, .int .i64 t554, .int .i64 0, .int .i64 0]) ?_ 5 _ rfl; (with_reducible repeat (first | refine blk_drewN ?_ _ | refine blk_drew ?_ | refine blk_alloc ?_ _)); refine blk_put (cs := #[.bool t550, .int .i64 t551, .int .i64 t552, .int .i64 t553, .int .i64 0, .int .i64 0, .int .i64 0]) ?_ 4 _ rfl; (with_reducible repeat (first | refine blk_drewN ?_ _ | refine blk_drew ?_ | refine blk_alloc ?_ _)); refine blk_put (cs := #[.bool t550, .int .i64 t551, .int .i64 t552, .int .i64 0, .int .i64 0, .int .i64 0, .int .i64 0]) ?_ 3 _ rfl; (with_reducible repeat (first | refine blk_drewN ?_ _ | refine blk_drew ?_ | refine blk_alloc ?_ _)); refine blk_put (cs := #[.bool t550, .int .i64 t551, .int .i64 0, .int .i64 0, .int .i64 0, .int .i64 0, .int .i64 0]) ?_ 2 _ rfl; (with_reducible repeat (first | refine blk_drewN ?_ _ | refine blk_drew ?_ | refine blk_alloc ?_ _)); refine blk_put (cs := #[.bool t550, .int .i64 0, .int .i64 0, .int .i64 0, .int .i64 0, .int .i64 0, .int .i64 0]) ?_ 1 _ rfl; (with_reducible repeat (first | refine blk_drewN ?_ _ | refine blk_drew ?_ | refine blk_alloc ?_ _)); refine blk_put (cs := #[.bool false, .int .i64 0, .int .i64 0, .int .i64 0, .int .i64 0, .int .i64 0, .int .i64 0]) ?_ 0 _ rfl; (with_reducible repeat (first | refine blk_drewN ?_ _ | refine blk_drew ?_ | refine blk_alloc ?_ _)); exact BK558.out) hb); have n4_ := Aside0.mk (below_step (by repeat (first | (with_reducible first | exact HB.out | apply below_alloc | apply pw_below_drewN | apply below_drew1 | refine below_set ?_ GE540.out | refine below_set ?_ GE541.out | refine below_set ?_ GE542.out | refine below_set ?_ GE558.out) | exact HB.out)) hb); clear BK540; clear BK541; clear BK542; clear BK558; clear HB; have BK540 := n0_; have BK541 := n1_; have BK542 := n2_; have BK558 := n3_; have HB := n4_; clear n0_ n1_ n2_ n3_ n4_; (try clear hb); (try clear hb2); (try clear hk); (try clear hi); have hcz167_0 : w166.cell? ⟨gb558, 0, none⟩ = some (.bool t550) := (blk_cell BK558.out 0).trans rfl; have hcz167_1 : w166.cell? ⟨gb558, 1, none⟩ = some (.int .i64 t551) := (blk_cell BK558.out 1).trans rfl; have hcz167_2 : w166.cell? ⟨gb558, 2, none⟩ = some (.int .i64 t552) := (blk_cell BK558.out 2).trans rfl; have hcz167_3 : w166.cell? ⟨gb558, 3, none⟩ = some (.int .i64 t553) := (blk_cell BK558.out 3).trans rfl; have hcz167_4 : w166.cell? ⟨gb558, 4, none⟩ = some (.int .i64 t554) := (blk_cell BK558.out 4).trans rfl; have hcz167_5 : w166.cell? ⟨gb558, 5, none⟩ = some (.int .i64 t555) := (blk_cell BK558.out 5).trans rfl; have hcz167_6 : w166.cell? ⟨gb558, 6, none⟩ = some (.int .i64 t556) := (blk_cell BK558.out 6).trans rfl; have hfz167_0 := blk_frozen BK558.out 0; have hfz167_1 := blk_frozen BK558.out 1; have hfz167_2 := blk_frozen BK558.out 2; have hfz167_3 := blk_frozen BK558.out 3; have hfz167_4 := blk_frozen BK558.out 4; have hfz167_5 := blk_frozen BK558.out 5; have hfz167_6 := blk_frozen BK558.out 6; have hcz168_0 : w166.cell? ⟨gb540, 0, none⟩ = some (.bool a0_0) := (blk_cell BK540.out 0).trans rfl; have hcz168_1 : w166.cell? ⟨gb540, 1, none⟩ = some (.int .i64 a0_1) := (blk_cell BK540.out 1).trans rfl; have hcz168_2 : w166.cell? ⟨gb540, 2, none⟩ = some (.int .i64 a0_2) := (blk_cell BK540.out 2).trans rfl; have hcz168_3 : w166.cell? ⟨gb540, 3, none⟩ = some (.int .i64 a0_3) := (blk_cell BK540.out 3).trans rfl; have hcz168_4 : w166.cell? ⟨gb540, 4, none⟩ = some (.int .i64 a0_4) := (blk_cell BK540.out 4).trans rfl; have hcz168_5 : w166.cell? ⟨gb540, 5, none⟩ = some (.int .i64 a0_5) := (blk_cell BK540.out 5).trans rfl; have hcz168_6 : w166.cell? ⟨gb540, 6, none⟩ = some (.int .i64 a0_6) := (blk_cell BK540.out 6).trans rfl; have hfz168_0 := blk_frozen BK540.out 0; have hfz168_1 := blk_frozen BK540.out 1; have hfz168_2 := blk_frozen BK540.out 2; have hfz168_3 := blk_frozen BK540.out 3; have hfz168_4 := blk_frozen BK540.out 4; have hfz168_5 := blk_frozen BK540.out 5; have hfz168_6 := blk_frozen BK540.out 6; have hcz169_0 : w166.cell? ⟨gb541, 0, none⟩ = some (.int .i64 a1_0) := (blk_cell BK541.out 0).trans rfl; have hcz169_1 : w166.cell? ⟨gb541, 1, none⟩ = some (.int .i64 a1_1) := (blk_cell BK541.out 1).trans rfl; have hfz169_0 := blk_frozen BK541.out 0; have hfz169_1 := blk_frozen BK541.out 1) | (go_at_call 26; (with_reducible refine (slotmeshlaw09_holds.calls t550 t551 t552 t553 t554 t555 t556 a1_0 a1_1 (wrap64 ((wrap64 ((wrap64 (Int.tdiv (wrap64 (a3 + a4)) 10000)) * 10000)) + a5)) t561 _ A152.out).mono ?_); rintro e w170 ⟨rfl, hb⟩; have n0_ := Aside0.mk (blk_below (g := gb540) (o := .cells #[.bool a0_0, .int .i64 a0_1, .int .i64 a0_2, .int .i64 a0_3, .int .i64 a0_4, .int .i64 a0_5, .int .i64 a0_6] 25 (0, 0)) (by (with_reducible repeat (first | refine blk_drewN ?_ _ | refine blk_drew ?_ | refine blk_alloc ?_ _)); exact BK540.out) hb); have n1_ := Aside0.mk (blk_below (g := gb541) (o := .cells #[.int .i64 a1_0, .int .i64 a1_1] 47 (0, 0)) (by (with_reducible repeat (first | refine blk_drewN ?_ _ | refine blk_drew ?_ | refine blk_alloc ?_ _)); exact BK541.out) hb); have n2_ := Aside0.mk (blk_below (g := gb542) (o := .cells #[.int .i64 a2_0, .int .i64 a2_1, .int .i64 a2_2, .int .i64 (wrap64 (Int.tdiv (wrap64 (a3 + a4)) 10000)), .int .i64 t544] 27 (0, 0)) (by (with_reducible repeat (first | refine blk_drewN ?_ _ | refine blk_drew ?_ | refine blk_alloc ?_ _)); exact BK542.out) hb); have n3_ := Aside0.mk (blk_below (g := gb558) (o := .cells #[.bool t550, .int .i64 t551, .int .i64 t552, .int .i64 t553, .int .i64 t554, .int .i64 t555, .int .i64 t556] 25 (0, 0)) (by (with_reducible repeat (first | refine blk_drewN ?_ _ | refine blk_drew ?_ | refine blk_alloc ?_ _)); exact BK558.out) hb); have n4_ := Aside0.mk (below_step (by repeat (first | (with_reducible first | exact HB.out | apply below_alloc | apply pw_below_drewN | apply below_drew1 | refine below_set ?_ GE540.out | refine below_set ?_ GE541.out | refine below_set ?_ GE542.out | refine below_set ?_ GE558.out) | exact HB.out)) hb); clear BK540; clear BK541; clear BK542; clear BK558; clear HB; have BK540 := n0_; have BK541 := n1_; have BK542 := n2_; have BK558 := n3_; have HB := n4_; clear n0_ n1_ n2_ n3_ n4_; (try clear hb); (try clear hb2); (try clear hk); (try clear hi)))
                      go_ret
                      exact ⟨by first | rfl | (simp [errW_none, errW_some] <;> rfl) | (simp [*, errW_none, errW_some] <;> rfl), by repeat (first | (with_reducible first | exact HB.out | apply below_alloc | apply pw_below_drewN | apply below_drew1 | refine below_set ?_ GE540.out | refine below_set ?_ GE541.out | refine below_set ?_ GE542.out | refine below_set ?_ GE558.out) | exact HB.out)⟩
                · replace c114 := Bool.eq_false_iff.mpr c114
                  subst c114
                  have H1 : (none) = some r := by rw [if_neg (show ¬ (false = true) by decide)] at H; exact H
                  clear H
                  have H := H1
                  clear H1
                  exact absurd H (by simp)
              · rw [if_neg c113] at H
                have c113b0 : (t557 == 0) = false := beq_eq_false_iff_ne.mpr c113
                have c113b1 : (t557 != 0) = true := bne_iff_ne.mpr c113
                by_cases c171 : t543 = true
                · subst c171
                  have H1 : (if t557 = 16 then (none) else (some (t557 != 1))) = some r := by rw [if_pos rfl] at H; exact H
                  clear H
                  have H := H1
                  clear H1
                  by_cases c172 : t557 = 16
                  · rw [if_pos c172] at H
                    exact absurd H (by simp)
                  · rw [if_neg c172] at H
                    have c172b0 : (t557 == 16) = false := beq_eq_false_iff_ne.mpr c172
                    have c172b1 : (t557 != 16) = true := bne_iff_ne.mpr c172
                    obtain rfl := Option.some.inj H
                    have hnb173 := NB540_541.out
                    have hnc173 := NB541_540.out
                    have hnb174 := NB540_542.out
                    have hnc174 := NB542_540.out
                    have hcz175_0 : wc.cell? ⟨gb540, 0, none⟩ = some (.bool a0_0) := (blk_cell BK540.out 0).trans rfl
                    have hcz175_1 : wc.cell? ⟨gb540, 1, none⟩ = some (.int .i64 a0_1) := (blk_cell BK540.out 1).trans rfl
                    have hcz175_2 : wc.cell? ⟨gb540, 2, none⟩ = some (.int .i64 a0_2) := (blk_cell BK540.out 2).trans rfl
                    have hcz175_3 : wc.cell? ⟨gb540, 3, none⟩ = some (.int .i64 a0_3) := (blk_cell BK540.out 3).trans rfl
                    have hcz175_4 : wc.cell? ⟨gb540, 4, none⟩ = some (.int .i64 a0_4) := (blk_cell BK540.out 4).trans rfl
                    have hcz175_5 : wc.cell? ⟨gb540, 5, none⟩ = some (.int .i64 a0_5) := (blk_cell BK540.out 5).trans rfl
                    have hcz175_6 : wc.cell? ⟨gb540, 6, none⟩ = some (.int .i64 a0_6) := (blk_cell BK540.out 6).trans rfl
                    have hfz175_0 := blk_frozen BK540.out 0
                    have hfz175_1 := blk_frozen BK540.out 1
                    have hfz175_2 := blk_frozen BK540.out 2
                    have hfz175_3 := blk_frozen BK540.out 3
                    have hfz175_4 := blk_frozen BK540.out 4
                    have hfz175_5 := blk_frozen BK540.out 5
                    have hfz175_6 := blk_frozen BK540.out 6
                    have hnb176 := NB542_541.out
                    have hnc176 := NB541_542.out
                    have hcz177_0 : wc.cell? ⟨gb542, 0, none⟩ = some (.int .i64 a2_0) := (blk_cell BK542.out 0).trans rfl
                    have hcz177_1 : wc.cell? ⟨gb542, 1, none⟩ = some (.int .i64 a2_1) := (blk_cell BK542.out 1).trans rfl
                    have hcz177_2 : wc.cell? ⟨gb542, 2, none⟩ = some (.int .i64 a2_2) := (blk_cell BK542.out 2).trans rfl
                    have hcz177_3 : wc.cell? ⟨gb542, 3, none⟩ = some (.int .i64 (wrap64 (Int.tdiv (wrap64 (a3 + a4)) 10000))) := (blk_cell BK542.out 3).trans rfl
                    have hcz177_4 : wc.cell? ⟨gb542, 4, none⟩ = some (.int .i64 t544) := (blk_cell BK542.out 4).trans rfl
                    have hfz177_0 := blk_frozen BK542.out 0
                    have hfz177_1 := blk_frozen BK542.out 1
                    have hfz177_2 := blk_frozen BK542.out 2
                    have hfz177_3 := blk_frozen BK542.out 3
                    have hfz177_4 := blk_frozen BK542.out 4
                    go_wp2_with (first | ((with_reducible refine gate_callee (f := 12) rfl ?_); refine goesL_ (some 126) rfl rfl Try.func12 (by kernel_rfl) rfl #[.agg #[.bool a0_0, .int .i64 a0_1, .int .i64 a0_2, .int .i64 a0_3, .int .i64 a0_4, .int .i64 a0_5, .int .i64 a0_6], .agg #[.int .i64 a2_0, .int .i64 a2_1, .int .i64 a2_2, .int .i64 (wrap64 (Int.tdiv (wrap64 (a3 + a4)) 10000)), .int .i64 t544]] rfl (by (try simp only [List.map_toArray, List.map_cons, List.map_nil]); first | done | rfl | (simp only [List.length_drop, List.length_take]; rfl)) ?_; (with_reducible refine (timesync_Hear.calls kj50 a0_0 a0_1 a0_2 a0_3 a0_4 a0_5 a0_6 a2_0 a2_1 a2_2 (wrap64 (Int.tdiv (wrap64 (a3 + a4)) 10000)) t544 t550 t551 t552 t553 t554 t555 t556 t557 _ A112.out).mono ?_); rintro e w178 ⟨rfl, hb⟩; refine ⟨_, rfl, ?_⟩; have n0_ := Aside0.mk (blk_below (g := gb540) (o := .cells #[.bool a0_0, .int .i64 a0_1, .int .i64 a0_2, .int .i64 a0_3, .int .i64 a0_4, .int .i64 a0_5, .int .i64 a0_6] 25 (0, 0)) (by (with_reducible repeat (first | refine blk_drewN ?_ _ | refine blk_drew ?_ | refine blk_alloc ?_ _)); exact BK540.out) hb); have n1_ := Aside0.mk (blk_below (g := gb541) (o := .cells #[.int .i64 a1_0, .int .i64 a1_1] 47 (0, 0)) (by (with_reducible repeat (first | refine blk_drewN ?_ _ | refine blk_drew ?_ | refine blk_alloc ?_ _)); exact BK541.out) hb); have n2_ := Aside0.mk (blk_below (g := gb542) (o := .cells #[.int .i64 a2_0, .int .i64 a2_1, .int .i64 a2_2, .int .i64 (wrap64 (Int.tdiv (wrap64 (a3 + a4)) 10000)), .int .i64 t544] 27 (0, 0)) (by (with_reducible repeat (first | refine blk_drewN ?_ _ | refine blk_drew ?_ | refine blk_alloc ?_ _)); exact BK542.out) hb); have n3_ := Aside0.mk (below_step (by repeat (first | (with_reducible first | exact HB.out | apply below_alloc | apply pw_below_drewN | apply below_drew1 | refine below_set ?_ GE540.out | refine below_set ?_ GE541.out | refine below_set ?_ GE542.out) | exact HB.out)) hb); clear BK540; clear BK541; clear BK542; clear HB; have BK540 := n0_; have BK541 := n1_; have BK542 := n2_; have HB := n3_; clear n0_ n1_ n2_ n3_; (try clear hb); (try clear hb2); (try clear hk); (try clear hi)) | ((with_reducible refine gate_dst (N := 17) rfl ?_); refine box_event ?hg (N := 17) ?hd (cs := #[.bool false, .int .i64 0, .int .i64 0, .int .i64 0, .int .i64 0, .int .i64 0, .int .i64 0]) (t := 25) ?hr ?_; (case hd => rfl); (case hg => rfl); (case hr => first | (go_simp; done) | (go_simp; rfl)); intro gb558 hg w179 hbox hb; have n0_ := Aside0.mk (blk_below (g := gb540) (o := .cells #[.bool a0_0, .int .i64 a0_1, .int .i64 a0_2, .int .i64 a0_3, .int .i64 a0_4, .int .i64 a0_5, .int .i64 a0_6] 25 (0, 0)) (by (with_reducible repeat (first | refine blk_drewN ?_ _ | refine blk_drew ?_ | refine blk_alloc ?_ _)); exact BK540.out) hb); have n1_ := Aside0.mk (blk_below (g := gb541) (o := .cells #[.int .i64 a1_0, .int .i64 a1_1] 47 (0, 0)) (by (with_reducible repeat (first | refine blk_drewN ?_ _ | refine blk_drew ?_ | refine blk_alloc ?_ _)); exact BK541.out) hb); have n2_ := Aside0.mk (blk_below (g := gb542) (o := .cells #[.int .i64 a2_0, .int .i64 a2_1, .int .i64 a2_2, .int .i64 (wrap64 (Int.tdiv (wrap64 (a3 + a4)) 10000)), .int .i64 t544] 27 (0, 0)) (by (with_reducible repeat (first | refine blk_drewN ?_ _ | refine blk_drew ?_ | refine blk_alloc ?_ _)); exact BK542.out) hb); have n3_ := Aside0.mk (below_step (by repeat (first | (with_reducible first | exact HB.out | apply below_alloc | apply pw_below_drewN | apply below_drew1 | refine below_set ?_ GE540.out | refine below_set ?_ GE541.out | refine below_set ?_ GE542.out) | exact HB.out)) hb); have n4_ := Aside0.mk (hbox); have n5_ := Aside0.mk ((by rw [hg]; exact (below_size (by repeat (first | (with_reducible first | exact HB.out | apply below_alloc | apply pw_below_drewN | apply below_drew1 | refine below_set ?_ GE540.out | refine below_set ?_ GE541.out | refine below_set ?_ GE542.out) | exact HB.out))) : w.heap.size ≤ gb558)); have n6_ := Aside0.mk ((by rw [hg]; exact (below_size (by repeat (first | (with_reducible first | exact HB.out | apply below_alloc | apply pw_below_drewN | apply below_drew1 | refine below_set ?_ GE540.out | refine below_set ?_ GE541.out | refine below_set ?_ GE542.out) | exact HB.out))) : w.heap.size ≤ gb558)); have n7_ := Aside0.mk ((by rw [hg]; exact Nat.ne_of_lt (blk_lt (g := gb540) (o := .cells #[.bool a0_0, .int .i64 a0_1, .int .i64 a0_2, .int .i64 a0_3, .int .i64 a0_4, .int .i64 a0_5, .int .i64 a0_6] 25 (0, 0)) (by (with_reducible repeat (first | refine blk_drewN ?_ _ | refine blk_drew ?_ | refine blk_alloc ?_ _)); exact BK540.out)) : gb540 ≠ gb558)); have n8_ := Aside0.mk ((by rw [hg]; exact Nat.ne_of_gt (blk_lt (g := gb540) (o := .cells #[.bool a0_0, .int .i64 a0_1, .int .i64 a0_2, .int .i64 a0_3, .int .i64 a0_4, .int .i64 a0_5, .int .i64 a0_6] 25 (0, 0)) (by (with_reducible repeat (first | refine blk_drewN ?_ _ | refine blk_drew ?_ | refine blk_alloc ?_ _)); exact BK540.out)) : gb558 ≠ gb540)); have n9_ := Aside0.mk ((by rw [hg]; exact Nat.ne_of_lt (blk_lt (g := gb541) (o := .cells #[.int .i64 a1_0, .int .i64 a1_1] 47 (0, 0)) (by (with_reducible repeat (first | refine blk_drewN ?_ _ | refine blk_drew ?_ | refine blk_alloc ?_ _)); exact BK541.out)) : gb541 ≠ gb558)); have n10_ := Aside0.mk ((by rw [hg]; exact Nat.ne_of_gt (blk_lt (g := gb541) (o := .cells #[.int .i64 a1_0, .int .i64 a1_1] 47 (0, 0)) (by (with_reducible repeat (first | refine blk_drewN ?_ _ | refine blk_drew ?_ | refine blk_alloc ?_ _)); exact BK541.out)) : gb558 ≠ gb541)); have n11_ := Aside0.mk ((by rw [hg]; exact Nat.ne_of_lt (blk_lt (g := gb542) (o := .cells #[.int .i64 a2_0, .int .i64 a2_1, .int .i64 a2_2, .int .i64 (wrap64 (Int.tdiv (wrap64 (a3 + a4)) 10000)), .int .i64 t544] 27 (0, 0)) (by (with_reducible repeat (first | refine blk_drewN ?_ _ | refine blk_drew ?_ | refine blk_alloc ?_ _)); exact BK542.out)) : gb542 ≠ gb558)); have n12_ := Aside0.mk ((by rw [hg]; exact Nat.ne_of_gt (blk_lt (g := gb542) (o := .cells #[.int .i64 a2_0, .int .i64 a2_1, .int .i64 a2_2, .int .i64 (wrap64 (Int.tdiv (wrap64 (a3 + a4)) 10000)), .int .i64 t544] 27 (0, 0)) (by (with_reducible repeat (first | refine blk_drewN ?_ _ | refine blk_drew ?_ | refine blk_alloc ?_ _)); exact BK542.out)) : gb558 ≠ gb542)); clear BK540; clear BK541; clear BK542; clear HB; have BK540 := n0_; have BK541 := n1_; have BK542 := n2_; have HB := n3_; have BK558 := n4_; have GW558 := n5_; have GE558 := n6_; have NB540_558 := n7_; have NB558_540 := n8_; have NB541_558 := n9_; have NB558_541 := n10_; have NB542_558 := n11_; have NB558_542 := n12_; clear n0_ n1_ n2_ n3_ n4_ n5_ n6_ n7_ n8_ n9_ n10_ n11_ n12_; clear hb hbox hg; have hnb180 := NB558_540.out; have hnc180 := NB540_558.out; have hnb181 := NB558_541.out; have hnc181 := NB541_558.out; have hnb182 := NB558_542.out; have hnc182 := NB542_558.out; have hcz183_0 : w179.cell? ⟨gb558, 0, none⟩ = some (.bool false) := (blk_cell BK558.out 0).trans rfl; have hcz183_1 : w179.cell? ⟨gb558, 1, none⟩ = some (.int .i64 0) := (blk_cell BK558.out 1).trans rfl; have hcz183_2 : w179.cell? ⟨gb558, 2, none⟩ = some (.int .i64 0) := (blk_cell BK558.out 2).trans rfl; have hcz183_3 : w179.cell? ⟨gb558, 3, none⟩ = some (.int .i64 0) := (blk_cell BK558.out 3).trans rfl; have hcz183_4 : w179.cell? ⟨gb558, 4, none⟩ = some (.int .i64 0) := (blk_cell BK558.out 4).trans rfl; have hcz183_5 : w179.cell? ⟨gb558, 5, none⟩ = some (.int .i64 0) := (blk_cell BK558.out 5).trans rfl; have hcz183_6 : w179.cell? ⟨gb558, 6, none⟩ = some (.int .i64 0) := (blk_cell BK558.out 6).trans rfl; have hfz183_0 := blk_frozen BK558.out 0; have hfz183_1 := blk_frozen BK558.out 1; have hfz183_2 := blk_frozen BK558.out 2; have hfz183_3 := blk_frozen BK558.out 3; have hfz183_4 := blk_frozen BK558.out 4; have hfz183_5 := blk_frozen BK558.out 5; have hfz183_6 := blk_frozen BK558.out 6))
                    go_ret
                    exact ⟨by first | rfl | (simp [errW_none, errW_some] <;> rfl) | (simp [*, errW_none, errW_some] <;> rfl), by repeat (first | (with_reducible first | exact HB.out | apply below_alloc | apply pw_below_drewN | apply below_drew1 | refine below_set ?_ GE540.out | refine below_set ?_ GE541.out | refine below_set ?_ GE542.out | refine below_set ?_ GE558.out) | exact HB.out)⟩
                · replace c171 := Bool.eq_false_iff.mpr c171
                  subst c171
                  have H1 : (none) = some r := by rw [if_neg (show ¬ (false = true) by decide)] at H; exact H
                  clear H
                  have H := H1
                  clear H1
                  exact absurd H (by simp)
end Go.Proofs.Ytkbfhonoamgjgaa.P
end
