/- A claim's own texts, laid together by wip/zip.py without what the claim does not use. Conditions: none. -/
import Derived.Test.YtdpihbhkghjclaaZgpx0
import Derived.Test.YtdpihbhkghjclaaZgpx26
import Derived.Test.YtdpihbhkghjclaaZgpx27
import Derived.Test.YtdpihbhkghjclaaZgpx13
import Derived.Test.YtdpihbhkghjclaaZgpx32
import Derived.Test.YtdpihbhkghjclaaZgpx1
section
/- The Go functions of this claim as Lean functions, and the proofs that their calls answer so: written by wip/myprint.py over the kit's printer, hand-proved contracts laid in. Conditions: none. -/
namespace Go.Proofs.Ytdpihbhkghjclaa.P
open Go.RowKit Go.Proofs.YtdpihbhkghjclaaW.PrintWords Go.Proofs.YtdpihbhkghjclaaW.PrintLast Go.Proofs.YtdpihbhkghjclaaW.PrintMore
attribute [local go_sem] max2_int min2_int max_two min_two max_three min_three max_four min_four   -- for this text's walks alone
set_option linter.unusedVariables false
set_option linter.unusedSimpArgs false
/-! ### slotmeshlaw10_GuardCaught: function 7 -/
mutual
def slotmeshlaw10_GuardCaught.j0 : Nat → Int → Bool → Bool → Bool → Int → Int → Int → Int → Int → Int → Int → Int → Bool → Int → Int → Int → Int → Int → Int → Int → Int → Option (Bool)
  | 0, _, _, _, _, _, _, _, _, _, _, _, _, _, _, _, _, _, _, _, _, _ => none
  | k + 1, x6, x15, x40, x306000, x306001, x306002, x306003, x306004, x306005, x306006, x307000, x307001, x308000, x308001, x308002, x308003, x308004, x308005, x308006, x309000, x309001 => if x40 = true then (some x15) else ((guard_Send.f k x306000 x306001 x306002 x306003 x306004 x306005 x306006 x307000 x307001 x6).bind fun bt312 => ((guard_Send.f k x308000 x308001 x308002 x308003 x308004 x308005 x308006 x309000 x309001 x6).bind fun bt314 => ((guard_Listen.f k x306000 x306001 x306002 x306003 x306004 x306005 x306006 x307000 x307001 x6).bind fun bt316 => ((guard_Listen.f k x308000 x308001 x308002 x308003 x308004 x308005 x308006 x309000 x309001 x6).bind fun bt320 => (if bt312.2 = bt316.2.2 then (slotmeshlaw10_GuardCaught.j1 k x15 bt312.1 bt312.2 bt314.1 bt314.2 (bt314.2 != bt320.2.2) bt316.1 bt316.2.1 bt320.1 bt320.2.1) else (slotmeshlaw10_GuardCaught.j1 k x15 bt312.1 bt312.2 bt314.1 bt314.2 true bt316.1 bt316.2.1 bt320.1 bt320.2.1))))))
def slotmeshlaw10_GuardCaught.j1 : Nat → Bool → Int → Int → Int → Int → Bool → Int → Int → Int → Int → Option (Bool)
  | 0, _, _, _, _, _, _, _, _, _, _ => none
  | k + 1, x15, x18, x19, x20, x21, x77, x320000, x320001, x324000, x324001 => if x77 = true then (none) else (if x15 = true then (if x19 = 0 then (if x21 = 0 then ((guard_Catches.f x18 x324000 x324001).bind fun t324 => (if t324 = true then ((guard_Catches.f x20 x320000 x320001).bind fun t325 => (some t325)) else (none))) else (some true)) else (some true)) else (none))
end
def slotmeshlaw10_GuardCaught.f (k : Nat) (a0_0 : Bool) (a0_1 : Int) (a0_2 : Int) (a0_3 : Int) (a0_4 : Int) (a0_5 : Int) (a0_6 : Int) (a1_0 : Int) (a1_1 : Int) (a2 : Int) (a3_0 : Bool) (a3_1 : Int) (a3_2 : Int) (a3_3 : Int) (a3_4 : Int) (a3_5 : Int) (a3_6 : Int) (a4_0 : Int) (a4_1 : Int) (a5 : Int) (a6 : Int) : Option (Bool) := (slotmeshlaw10_head.f k).bind fun t309 => ((slotmeshlaw10_isTrue.f k a0_0 a0_1 a0_2 a0_3 a0_4 a0_5 a0_6 a1_0 a1_1 a2).bind fun t310 => ((slotmeshlaw10_isTrue.f k a3_0 a3_1 a3_2 a3_3 a3_4 a3_5 a3_6 a4_0 a4_1 a5).bind fun t311 => (if t310 = true then (slotmeshlaw10_GuardCaught.j0 k a6 t309 (!t311) a0_0 a0_1 a0_2 a0_3 a0_4 a0_5 a0_6 a1_0 a1_1 a3_0 a3_1 a3_2 a3_3 a3_4 a3_5 a3_6 a4_0 a4_1) else (slotmeshlaw10_GuardCaught.j0 k a6 t309 true a0_0 a0_1 a0_2 a0_3 a0_4 a0_5 a0_6 a1_0 a1_1 a3_0 a3_1 a3_2 a3_3 a3_4 a3_5 a3_6 a4_0 a4_1))))
set_option maxHeartbeats 8000000 in
set_option maxRecDepth 100000 in
theorem slotmeshlaw10_GuardCaught.calls (k : Nat) (a0_0 : Bool) (a0_1 : Int) (a0_2 : Int) (a0_3 : Int) (a0_4 : Int) (a0_5 : Int) (a0_6 : Int) (a1_0 : Int) (a1_1 : Int) (a2 : Int) (a3_0 : Bool) (a3_1 : Int) (a3_2 : Int) (a3_3 : Int) (a3_4 : Int) (a3_5 : Int) (a3_6 : Int) (a4_0 : Int) (a4_1 : Int) (a5 : Int) (a6 : Int) (r : Bool) (w : World) (h : slotmeshlaw10_GuardCaught.f k a0_0 a0_1 a0_2 a0_3 a0_4 a0_5 a0_6 a1_0 a1_1 a2 a3_0 a3_1 a3_2 a3_3 a3_4 a3_5 a3_6 a4_0 a4_1 a5 a6 = some r) :
    Calls Try.prog 7 #[.agg #[.bool a0_0, .int .i64 a0_1, .int .i64 a0_2, .int .i64 a0_3, .int .i64 a0_4, .int .i64 a0_5, .int .i64 a0_6], .agg #[.int .i64 a1_0, .int .i64 a1_1], .int .i64 a2, .agg #[.bool a3_0, .int .i64 a3_1, .int .i64 a3_2, .int .i64 a3_3, .int .i64 a3_4, .int .i64 a3_5, .int .i64 a3_6], .agg #[.int .i64 a4_0, .int .i64 a4_1], .int .i64 a5, .int .i64 a6] w fun e w' => e = .returned (.bool r) ∧ Below w.heap.size w w' := by
  have hu25 := Try.underlying25
  have hu27 := Try.underlying27
  have hu55 := Try.underlying55
  have HB := Aside0.mk (Below.refl w.heap.size w)
  have H : ((slotmeshlaw10_head.f k).bind fun t309 => ((slotmeshlaw10_isTrue.f k a0_0 a0_1 a0_2 a0_3 a0_4 a0_5 a0_6 a1_0 a1_1 a2).bind fun t310 => ((slotmeshlaw10_isTrue.f k a3_0 a3_1 a3_2 a3_3 a3_4 a3_5 a3_6 a4_0 a4_1 a5).bind fun t311 => (if t310 = true then (slotmeshlaw10_GuardCaught.j0 k a6 t309 (!t311) a0_0 a0_1 a0_2 a0_3 a0_4 a0_5 a0_6 a1_0 a1_1 a3_0 a3_1 a3_2 a3_3 a3_4 a3_5 a3_6 a4_0 a4_1) else (slotmeshlaw10_GuardCaught.j0 k a6 t309 true a0_0 a0_1 a0_2 a0_3 a0_4 a0_5 a0_6 a1_0 a1_1 a3_0 a3_1 a3_2 a3_3 a3_4 a3_5 a3_6 a4_0 a4_1))))) = some r := h
  clear h
  replace H := Option.bind_eq_some_iff.mp H
  obtain ⟨t309, A80, H⟩ := H
  replace H : ((slotmeshlaw10_isTrue.f k a0_0 a0_1 a0_2 a0_3 a0_4 a0_5 a0_6 a1_0 a1_1 a2).bind fun t310 => ((slotmeshlaw10_isTrue.f k a3_0 a3_1 a3_2 a3_3 a3_4 a3_5 a3_6 a4_0 a4_1 a5).bind fun t311 => (if t310 = true then (slotmeshlaw10_GuardCaught.j0 k a6 t309 (!t311) a0_0 a0_1 a0_2 a0_3 a0_4 a0_5 a0_6 a1_0 a1_1 a3_0 a3_1 a3_2 a3_3 a3_4 a3_5 a3_6 a4_0 a4_1) else (slotmeshlaw10_GuardCaught.j0 k a6 t309 true a0_0 a0_1 a0_2 a0_3 a0_4 a0_5 a0_6 a1_0 a1_1 a3_0 a3_1 a3_2 a3_3 a3_4 a3_5 a3_6 a4_0 a4_1)))) = some r := H
  have A8 := Aside0.mk A80
  clear A80
  replace H := Option.bind_eq_some_iff.mp H
  obtain ⟨t310, A90, H⟩ := H
  replace H : ((slotmeshlaw10_isTrue.f k a3_0 a3_1 a3_2 a3_3 a3_4 a3_5 a3_6 a4_0 a4_1 a5).bind fun t311 => (if t310 = true then (slotmeshlaw10_GuardCaught.j0 k a6 t309 (!t311) a0_0 a0_1 a0_2 a0_3 a0_4 a0_5 a0_6 a1_0 a1_1 a3_0 a3_1 a3_2 a3_3 a3_4 a3_5 a3_6 a4_0 a4_1) else (slotmeshlaw10_GuardCaught.j0 k a6 t309 true a0_0 a0_1 a0_2 a0_3 a0_4 a0_5 a0_6 a1_0 a1_1 a3_0 a3_1 a3_2 a3_3 a3_4 a3_5 a3_6 a4_0 a4_1))) = some r := H
  have A9 := Aside0.mk A90
  clear A90
  replace H := Option.bind_eq_some_iff.mp H
  obtain ⟨t311, A100, H⟩ := H
  replace H : (if t310 = true then (slotmeshlaw10_GuardCaught.j0 k a6 t309 (!t311) a0_0 a0_1 a0_2 a0_3 a0_4 a0_5 a0_6 a1_0 a1_1 a3_0 a3_1 a3_2 a3_3 a3_4 a3_5 a3_6 a4_0 a4_1) else (slotmeshlaw10_GuardCaught.j0 k a6 t309 true a0_0 a0_1 a0_2 a0_3 a0_4 a0_5 a0_6 a1_0 a1_1 a3_0 a3_1 a3_2 a3_3 a3_4 a3_5 a3_6 a4_0 a4_1)) = some r := H
  have A10 := Aside0.mk A100
  clear A100
  have HC11 := Aside0.mk H
  clear H
  go_enter Try.func7, Try.ntmps7
  go_upto_region 4 with (first | ((with_reducible refine gate_dst (N := 7) rfl ?_); refine box_event ?hg (N := 7) ?hd (cs := #[.bool a0_0, .int .i64 a0_1, .int .i64 a0_2, .int .i64 a0_3, .int .i64 a0_4, .int .i64 a0_5, .int .i64 a0_6]) (t := 25) ?hr ?_; (case hd => rfl); (case hg => rfl); (case hr => first | (go_simp; done) | (go_simp; rfl)); intro gb305 hg w12 hbox hb; have n0_ := Aside0.mk (below_step (by repeat (first | (with_reducible first | exact HB.out | apply below_alloc | apply pw_below_drewN | apply below_drew1) | exact HB.out)) hb); have n1_ := Aside0.mk (hbox); have n2_ := Aside0.mk ((by rw [hg]; exact (below_size (by repeat (first | (with_reducible first | exact HB.out | apply below_alloc | apply pw_below_drewN | apply below_drew1) | exact HB.out))) : w.heap.size ≤ gb305)); have n3_ := Aside0.mk ((by rw [hg]; exact (below_size (by repeat (first | (with_reducible first | exact HB.out | apply below_alloc | apply pw_below_drewN | apply below_drew1) | exact HB.out))) : w.heap.size ≤ gb305)); clear HB; have HB := n0_; have BK305 := n1_; have GW305 := n2_; have GE305 := n3_; clear n0_ n1_ n2_ n3_; clear hb hbox hg) | ((with_reducible refine gate_dst (N := 8) rfl ?_); refine box_event ?hg (N := 8) ?hd (cs := #[.int .i64 a1_0, .int .i64 a1_1]) (t := 27) ?hr ?_; (case hd => rfl); (case hg => rfl); (case hr => first | (go_simp; done) | (go_simp; rfl)); intro gb306 hg w13 hbox hb; have n0_ := Aside0.mk (blk_below (g := gb305) (o := .cells #[.bool a0_0, .int .i64 a0_1, .int .i64 a0_2, .int .i64 a0_3, .int .i64 a0_4, .int .i64 a0_5, .int .i64 a0_6] 25 (0, 0)) (by (with_reducible repeat (first | refine blk_drewN ?_ _ | refine blk_drew ?_ | refine blk_alloc ?_ _)); exact BK305.out) hb); have n1_ := Aside0.mk (below_step (by repeat (first | (with_reducible first | exact HB.out | apply below_alloc | apply pw_below_drewN | apply below_drew1 | refine below_set ?_ GE305.out) | exact HB.out)) hb); have n2_ := Aside0.mk (hbox); have n3_ := Aside0.mk ((by rw [hg]; exact (below_size (by repeat (first | (with_reducible first | exact HB.out | apply below_alloc | apply pw_below_drewN | apply below_drew1 | refine below_set ?_ GE305.out) | exact HB.out))) : w.heap.size ≤ gb306)); have n4_ := Aside0.mk ((by rw [hg]; exact (below_size (by repeat (first | (with_reducible first | exact HB.out | apply below_alloc | apply pw_below_drewN | apply below_drew1 | refine below_set ?_ GE305.out) | exact HB.out))) : w.heap.size ≤ gb306)); have n5_ := Aside0.mk ((by rw [hg]; exact Nat.ne_of_lt (blk_lt (g := gb305) (o := .cells #[.bool a0_0, .int .i64 a0_1, .int .i64 a0_2, .int .i64 a0_3, .int .i64 a0_4, .int .i64 a0_5, .int .i64 a0_6] 25 (0, 0)) (by (with_reducible repeat (first | refine blk_drewN ?_ _ | refine blk_drew ?_ | refine blk_alloc ?_ _)); exact BK305.out)) : gb305 ≠ gb306)); have n6_ := Aside0.mk ((by rw [hg]; exact Nat.ne_of_gt (blk_lt (g := gb305) (o := .cells #[.bool a0_0, .int .i64 a0_1, .int .i64 a0_2, .int .i64 a0_3, .int .i64 a0_4, .int .i64 a0_5, .int .i64 a0_6] 25 (0, 0)) (by (with_reducible repeat (first | refine blk_drewN ?_ _ | refine blk_drew ?_ | refine blk_alloc ?_ _)); exact BK305.out)) : gb306 ≠ gb305)); clear BK305; clear HB; have BK305 := n0_; have HB := n1_; have BK306 := n2_; have GW306 := n3_; have GE306 := n4_; have NB305_306 := n5_; have NB306_305 := n6_; clear n0_ n1_ n2_ n3_ n4_ n5_ n6_; clear hb hbox hg) | ((with_reducible refine gate_dst (N := 10) rfl ?_); refine box_event ?hg (N := 10) ?hd (cs := #[.bool a3_0, .int .i64 a3_1, .int .i64 a3_2, .int .i64 a3_3, .int .i64 a3_4, .int .i64 a3_5, .int .i64 a3_6]) (t := 25) ?hr ?_; (case hd => rfl); (case hg => rfl); (case hr => first | (go_simp; done) | (go_simp; rfl)); intro gb307 hg w14 hbox hb; have n0_ := Aside0.mk (blk_below (g := gb305) (o := .cells #[.bool a0_0, .int .i64 a0_1, .int .i64 a0_2, .int .i64 a0_3, .int .i64 a0_4, .int .i64 a0_5, .int .i64 a0_6] 25 (0, 0)) (by (with_reducible repeat (first | refine blk_drewN ?_ _ | refine blk_drew ?_ | refine blk_alloc ?_ _)); exact BK305.out) hb); have n1_ := Aside0.mk (blk_below (g := gb306) (o := .cells #[.int .i64 a1_0, .int .i64 a1_1] 27 (0, 0)) (by (with_reducible repeat (first | refine blk_drewN ?_ _ | refine blk_drew ?_ | refine blk_alloc ?_ _)); exact BK306.out) hb); have n2_ := Aside0.mk (below_step (by repeat (first | (with_reducible first | exact HB.out | apply below_alloc | apply pw_below_drewN | apply below_drew1 | refine below_set ?_ GE305.out | refine below_set ?_ GE306.out) | exact HB.out)) hb); have n3_ := Aside0.mk (hbox); have n4_ := Aside0.mk ((by rw [hg]; exact (below_size (by repeat (first | (with_reducible first | exact HB.out | apply below_alloc | apply pw_below_drewN | apply below_drew1 | refine below_set ?_ GE305.out | refine below_set ?_ GE306.out) | exact HB.out))) : w.heap.size ≤ gb307)); have n5_ := Aside0.mk ((by rw [hg]; exact (below_size (by repeat (first | (with_reducible first | exact HB.out | apply below_alloc | apply pw_below_drewN | apply below_drew1 | refine below_set ?_ GE305.out | refine below_set ?_ GE306.out) | exact HB.out))) : w.heap.size ≤ gb307)); have n6_ := Aside0.mk ((by rw [hg]; exact Nat.ne_of_lt (blk_lt (g := gb305) (o := .cells #[.bool a0_0, .int .i64 a0_1, .int .i64 a0_2, .int .i64 a0_3, .int .i64 a0_4, .int .i64 a0_5, .int .i64 a0_6] 25 (0, 0)) (by (with_reducible repeat (first | refine blk_drewN ?_ _ | refine blk_drew ?_ | refine blk_alloc ?_ _)); exact BK305.out)) : gb305 ≠ gb307)); have n7_ := Aside0.mk ((by rw [hg]; exact Nat.ne_of_gt (blk_lt (g := gb305) (o := .cells #[.bool a0_0, .int .i64 a0_1, .int .i64 a0_2, .int .i64 a0_3, .int .i64 a0_4, .int .i64 a0_5, .int .i64 a0_6] 25 (0, 0)) (by (with_reducible repeat (first | refine blk_drewN ?_ _ | refine blk_drew ?_ | refine blk_alloc ?_ _)); exact BK305.out)) : gb307 ≠ gb305)); have n8_ := Aside0.mk ((by rw [hg]; exact Nat.ne_of_lt (blk_lt (g := gb306) (o := .cells #[.int .i64 a1_0, .int .i64 a1_1] 27 (0, 0)) (by (with_reducible repeat (first | refine blk_drewN ?_ _ | refine blk_drew ?_ | refine blk_alloc ?_ _)); exact BK306.out)) : gb306 ≠ gb307)); have n9_ := Aside0.mk ((by rw [hg]; exact Nat.ne_of_gt (blk_lt (g := gb306) (o := .cells #[.int .i64 a1_0, .int .i64 a1_1] 27 (0, 0)) (by (with_reducible repeat (first | refine blk_drewN ?_ _ | refine blk_drew ?_ | refine blk_alloc ?_ _)); exact BK306.out)) : gb307 ≠ gb306)); clear BK305; clear BK306; clear HB; have BK305 := n0_; have BK306 := n1_; have HB := n2_; have BK307 := n3_; have GW307 := n4_; have GE307 := n5_; have NB305_307 := n6_; have NB307_305 := n7_; have NB306_307 := n8_; have NB307_306 := n9_; clear n0_ n1_ n2_ n3_ n4_ n5_ n6_ n7_ n8_ n9_; clear hb hbox hg) | ((with_reducible refine gate_dst (N := 11) rfl ?_); refine box_event ?hg (N := 11) ?hd (cs := #[.int .i64 a4_0, .int .i64 a4_1]) (t := 27) ?hr ?_; (case hd => rfl); (case hg => rfl); (case hr => first | (go_simp; done) | (go_simp; rfl)); intro gb308 hg w15 hbox hb; have n0_ := Aside0.mk (blk_below (g := gb305) (o := .cells #[.bool a0_0, .int .i64 a0_1, .int .i64 a0_2, .int .i64 a0_3, .int .i64 a0_4, .int .i64 a0_5, .int .i64 a0_6] 25 (0, 0)) (by (with_reducible repeat (first | refine blk_drewN ?_ _ | refine blk_drew ?_ | refine blk_alloc ?_ _)); exact BK305.out) hb); have n1_ := Aside0.mk (blk_below (g := gb306) (o := .cells #[.int .i64 a1_0, .int .i64 a1_1] 27 (0, 0)) (by (with_reducible repeat (first | refine blk_drewN ?_ _ | refine blk_drew ?_ | refine blk_alloc ?_ _)); exact BK306.out) hb); have n2_ := Aside0.mk (blk_below (g := gb307) (o := .cells #[.bool a3_0, .int .i64 a3_1, .int .i64 a3_2, .int .i64 a3_3, .int .i64 a3_4, .int .i64 a3_5, .int .i64 a3_6] 25 (0, 0)) (by (with_reducible repeat (first | refine blk_drewN ?_ _ | refine blk_drew ?_ | refine blk_alloc ?_ _)); exact BK307.out) hb); have n3_ := Aside0.mk (below_step (by repeat (first | (with_reducible first | exact HB.out | apply below_alloc | apply pw_below_drewN | apply below_drew1 | refine below_set ?_ GE305.out | refine below_set ?_ GE306.out | refine below_set ?_ GE307.out) | exact HB.out)) hb); have n4_ := Aside0.mk (hbox); have n5_ := Aside0.mk ((by rw [hg]; exact (below_size (by repeat (first | (with_reducible first | exact HB.out | apply below_alloc | apply pw_below_drewN | apply below_drew1 | refine below_set ?_ GE305.out | refine below_set ?_ GE306.out | refine below_set ?_ GE307.out) | exact HB.out))) : w.heap.size ≤ gb308)); have n6_ := Aside0.mk ((by rw [hg]; exact (below_size (by repeat (first | (with_reducible first | exact HB.out | apply below_alloc | apply pw_below_drewN | apply below_drew1 | refine below_set ?_ GE305.out | refine below_set ?_ GE306.out | refine below_set ?_ GE307.out) | exact HB.out))) : w.heap.size ≤ gb308)); have n7_ := Aside0.mk ((by rw [hg]; exact Nat.ne_of_lt (blk_lt (g := gb305) (o := .cells #[.bool a0_0, .int .i64 a0_1, .int .i64 a0_2, .int .i64 a0_3, .int .i64 a0_4, .int .i64 a0_5, .int .i64 a0_6] 25 (0, 0)) (by (with_reducible repeat (first | refine blk_drewN ?_ _ | refine blk_drew ?_ | refine blk_alloc ?_ _)); exact BK305.out)) : gb305 ≠ gb308)); have n8_ := Aside0.mk ((by rw [hg]; exact Nat.ne_of_gt (blk_lt (g := gb305) (o := .cells #[.bool a0_0, .int .i64 a0_1, .int .i64 a0_2, .int .i64 a0_3, .int .i64 a0_4, .int .i64 a0_5, .int .i64 a0_6] 25 (0, 0)) (by (with_reducible repeat (first | refine blk_drewN ?_ _ | refine blk_drew ?_ | refine blk_alloc ?_ _)); exact BK305.out)) : gb308 ≠ gb305)); have n9_ := Aside0.mk ((by rw [hg]; exact Nat.ne_of_lt (blk_lt (g := gb306) (o := .cells #[.int .i64 a1_0, .int .i64 a1_1] 27 (0, 0)) (by (with_reducible repeat (first | refine blk_drewN ?_ _ | refine blk_drew ?_ | refine blk_alloc ?_ _)); exact BK306.out)) : gb306 ≠ gb308)); have n10_ := Aside0.mk ((by rw [hg]; exact Nat.ne_of_gt (blk_lt (g := gb306) (o := .cells #[.int .i64 a1_0, .int .i64 a1_1] 27 (0, 0)) (by (with_reducible repeat (first | refine blk_drewN ?_ _ | refine blk_drew ?_ | refine blk_alloc ?_ _)); exact BK306.out)) : gb308 ≠ gb306)); have n11_ := Aside0.mk ((by rw [hg]; exact Nat.ne_of_lt (blk_lt (g := gb307) (o := .cells #[.bool a3_0, .int .i64 a3_1, .int .i64 a3_2, .int .i64 a3_3, .int .i64 a3_4, .int .i64 a3_5, .int .i64 a3_6] 25 (0, 0)) (by (with_reducible repeat (first | refine blk_drewN ?_ _ | refine blk_drew ?_ | refine blk_alloc ?_ _)); exact BK307.out)) : gb307 ≠ gb308)); have n12_ := Aside0.mk ((by rw [hg]; exact Nat.ne_of_gt (blk_lt (g := gb307) (o := .cells #[.bool a3_0, .int .i64 a3_1, .int .i64 a3_2, .int .i64 a3_3, .int .i64 a3_4, .int .i64 a3_5, .int .i64 a3_6] 25 (0, 0)) (by (with_reducible repeat (first | refine blk_drewN ?_ _ | refine blk_drew ?_ | refine blk_alloc ?_ _)); exact BK307.out)) : gb308 ≠ gb307)); clear BK305; clear BK306; clear BK307; clear HB; have BK305 := n0_; have BK306 := n1_; have BK307 := n2_; have HB := n3_; have BK308 := n4_; have GW308 := n5_; have GE308 := n6_; have NB305_308 := n7_; have NB308_305 := n8_; have NB306_308 := n9_; have NB308_306 := n10_; have NB307_308 := n11_; have NB308_307 := n12_; clear n0_ n1_ n2_ n3_ n4_ n5_ n6_ n7_ n8_ n9_ n10_ n11_ n12_; clear hb hbox hg) | ((with_reducible refine gate_callee (f := 23) rfl ?_); refine goesL_ (some 26) rfl rfl Try.func23 (by kernel_rfl) rfl #[] rfl (by (try simp only [List.map_toArray, List.map_cons, List.map_nil]); first | done | rfl | (simp only [List.length_drop, List.length_take]; rfl)) ?_; (with_reducible refine (slotmeshlaw10_head.calls k  t309 _ A8.out).mono ?_); rintro e w16 ⟨rfl, hb⟩; refine ⟨_, rfl, ?_⟩; have n0_ := Aside0.mk (blk_below (g := gb305) (o := .cells #[.bool a0_0, .int .i64 a0_1, .int .i64 a0_2, .int .i64 a0_3, .int .i64 a0_4, .int .i64 a0_5, .int .i64 a0_6] 25 (0, 0)) (by (with_reducible repeat (first | refine blk_drewN ?_ _ | refine blk_drew ?_ | refine blk_alloc ?_ _)); exact BK305.out) hb); have n1_ := Aside0.mk (blk_below (g := gb306) (o := .cells #[.int .i64 a1_0, .int .i64 a1_1] 27 (0, 0)) (by (with_reducible repeat (first | refine blk_drewN ?_ _ | refine blk_drew ?_ | refine blk_alloc ?_ _)); exact BK306.out) hb); have n2_ := Aside0.mk (blk_below (g := gb307) (o := .cells #[.bool a3_0, .int .i64 a3_1, .int .i64 a3_2, .int .i64 a3_3, .int .i64 a3_4, .int .i64 a3_5, .int .i64 a3_6] 25 (0, 0)) (by (with_reducible repeat (first | refine blk_drewN ?_ _ | refine blk_drew ?_ | refine blk_alloc ?_ _)); exact BK307.out) hb); have n3_ := Aside0.mk (blk_below (g := gb308) (o := .cells #[.int .i64 a4_0, .int .i64 a4_1] 27 (0, 0)) (by (with_reducible repeat (first | refine blk_drewN ?_ _ | refine blk_drew ?_ | refine blk_alloc ?_ _)); exact BK308.out) hb); have n4_ := Aside0.mk (below_step (by repeat (first | (with_reducible first | exact HB.out | apply below_alloc | apply pw_below_drewN | apply below_drew1 | refine below_set ?_ GE305.out | refine below_set ?_ GE306.out | refine below_set ?_ GE307.out | refine below_set ?_ GE308.out) | exact HB.out)) hb); clear BK305; clear BK306; clear BK307; clear BK308; clear HB; have BK305 := n0_; have BK306 := n1_; have BK307 := n2_; have BK308 := n3_; have HB := n4_; clear n0_ n1_ n2_ n3_ n4_; (try clear hb); (try clear hb2); (try clear hk); (try clear hi); have hnb17 := NB305_306.out; have hnc17 := NB306_305.out; have hnb18 := NB305_307.out; have hnc18 := NB307_305.out; have hnb19 := NB305_308.out; have hnc19 := NB308_305.out; have hcz20_0 : w16.cell? ⟨gb305, 0, none⟩ = some (.bool a0_0) := (blk_cell BK305.out 0).trans rfl; have hcz20_1 : w16.cell? ⟨gb305, 1, none⟩ = some (.int .i64 a0_1) := (blk_cell BK305.out 1).trans rfl; have hcz20_2 : w16.cell? ⟨gb305, 2, none⟩ = some (.int .i64 a0_2) := (blk_cell BK305.out 2).trans rfl; have hcz20_3 : w16.cell? ⟨gb305, 3, none⟩ = some (.int .i64 a0_3) := (blk_cell BK305.out 3).trans rfl; have hcz20_4 : w16.cell? ⟨gb305, 4, none⟩ = some (.int .i64 a0_4) := (blk_cell BK305.out 4).trans rfl; have hcz20_5 : w16.cell? ⟨gb305, 5, none⟩ = some (.int .i64 a0_5) := (blk_cell BK305.out 5).trans rfl; have hcz20_6 : w16.cell? ⟨gb305, 6, none⟩ = some (.int .i64 a0_6) := (blk_cell BK305.out 6).trans rfl; have hfz20_0 := blk_frozen BK305.out 0; have hfz20_1 := blk_frozen BK305.out 1; have hfz20_2 := blk_frozen BK305.out 2; have hfz20_3 := blk_frozen BK305.out 3; have hfz20_4 := blk_frozen BK305.out 4; have hfz20_5 := blk_frozen BK305.out 5; have hfz20_6 := blk_frozen BK305.out 6; have hnb21 := NB306_307.out; have hnc21 := NB307_306.out; have hnb22 := NB306_308.out; have hnc22 := NB308_306.out; have hcz23_0 : w16.cell? ⟨gb306, 0, none⟩ = some (.int .i64 a1_0) := (blk_cell BK306.out 0).trans rfl; have hcz23_1 : w16.cell? ⟨gb306, 1, none⟩ = some (.int .i64 a1_1) := (blk_cell BK306.out 1).trans rfl; have hfz23_0 := blk_frozen BK306.out 0; have hfz23_1 := blk_frozen BK306.out 1) | ((with_reducible refine gate_callee (f := 29) rfl ?_); refine goesL_ (some 30) rfl rfl Try.func29 (by kernel_rfl) rfl #[.agg #[.bool a0_0, .int .i64 a0_1, .int .i64 a0_2, .int .i64 a0_3, .int .i64 a0_4, .int .i64 a0_5, .int .i64 a0_6], .agg #[.int .i64 a1_0, .int .i64 a1_1], .int .i64 a2] rfl (by (try simp only [List.map_toArray, List.map_cons, List.map_nil]); first | done | rfl | (simp only [List.length_drop, List.length_take]; rfl)) ?_; (with_reducible refine (slotmeshlaw10_isTrue.calls k a0_0 a0_1 a0_2 a0_3 a0_4 a0_5 a0_6 a1_0 a1_1 a2 t310 _ A9.out).mono ?_); rintro e w24 ⟨rfl, hb⟩; refine ⟨_, rfl, ?_⟩; have n0_ := Aside0.mk (blk_below (g := gb305) (o := .cells #[.bool a0_0, .int .i64 a0_1, .int .i64 a0_2, .int .i64 a0_3, .int .i64 a0_4, .int .i64 a0_5, .int .i64 a0_6] 25 (0, 0)) (by (with_reducible repeat (first | refine blk_drewN ?_ _ | refine blk_drew ?_ | refine blk_alloc ?_ _)); exact BK305.out) hb); have n1_ := Aside0.mk (blk_below (g := gb306) (o := .cells #[.int .i64 a1_0, .int .i64 a1_1] 27 (0, 0)) (by (with_reducible repeat (first | refine blk_drewN ?_ _ | refine blk_drew ?_ | refine blk_alloc ?_ _)); exact BK306.out) hb); have n2_ := Aside0.mk (blk_below (g := gb307) (o := .cells #[.bool a3_0, .int .i64 a3_1, .int .i64 a3_2, .int .i64 a3_3, .int .i64 a3_4, .int .i64 a3_5, .int .i64 a3_6] 25 (0, 0)) (by (with_reducible repeat (first | refine blk_drewN ?_ _ | refine blk_drew ?_ | refine blk_alloc ?_ _)); exact BK307.out) hb); have n3_ := Aside0.mk (blk_below (g := gb308) (o := .cells #[.int .i64 a4_0, .int .i64 a4_1] 27 (0, 0)) (by (with_reducible repeat (first | refine blk_drewN ?_ _ | refine blk_drew ?_ | refine blk_alloc ?_ _)); exact BK308.out) hb); have n4_ := Aside0.mk (below_step (by repeat (first | (with_reducible first | exact HB.out | apply below_alloc | apply pw_below_drewN | apply below_drew1 | refine below_set ?_ GE305.out | refine below_set ?_ GE306.out | refine below_set ?_ GE307.out | refine below_set ?_ GE308.out) | exact HB.out)) hb); clear BK305; clear BK306; clear BK307; clear BK308; clear HB; have BK305 := n0_; have BK306 := n1_; have BK307 := n2_; have BK308 := n3_; have HB := n4_; clear n0_ n1_ n2_ n3_ n4_; (try clear hb); (try clear hb2); (try clear hk); (try clear hi); have hnb25 := NB307_308.out; have hnc25 := NB308_307.out; have hcz26_0 : w24.cell? ⟨gb307, 0, none⟩ = some (.bool a3_0) := (blk_cell BK307.out 0).trans rfl; have hcz26_1 : w24.cell? ⟨gb307, 1, none⟩ = some (.int .i64 a3_1) := (blk_cell BK307.out 1).trans rfl; have hcz26_2 : w24.cell? ⟨gb307, 2, none⟩ = some (.int .i64 a3_2) := (blk_cell BK307.out 2).trans rfl; have hcz26_3 : w24.cell? ⟨gb307, 3, none⟩ = some (.int .i64 a3_3) := (blk_cell BK307.out 3).trans rfl; have hcz26_4 : w24.cell? ⟨gb307, 4, none⟩ = some (.int .i64 a3_4) := (blk_cell BK307.out 4).trans rfl; have hcz26_5 : w24.cell? ⟨gb307, 5, none⟩ = some (.int .i64 a3_5) := (blk_cell BK307.out 5).trans rfl; have hcz26_6 : w24.cell? ⟨gb307, 6, none⟩ = some (.int .i64 a3_6) := (blk_cell BK307.out 6).trans rfl; have hfz26_0 := blk_frozen BK307.out 0; have hfz26_1 := blk_frozen BK307.out 1; have hfz26_2 := blk_frozen BK307.out 2; have hfz26_3 := blk_frozen BK307.out 3; have hfz26_4 := blk_frozen BK307.out 4; have hfz26_5 := blk_frozen BK307.out 5; have hfz26_6 := blk_frozen BK307.out 6; have hcz27_0 : w24.cell? ⟨gb308, 0, none⟩ = some (.int .i64 a4_0) := (blk_cell BK308.out 0).trans rfl; have hcz27_1 : w24.cell? ⟨gb308, 1, none⟩ = some (.int .i64 a4_1) := (blk_cell BK308.out 1).trans rfl; have hfz27_0 := blk_frozen BK308.out 0; have hfz27_1 := blk_frozen BK308.out 1) | ((with_reducible refine gate_callee (f := 29) rfl ?_); refine goesL_ (some 34) rfl rfl Try.func29 (by kernel_rfl) rfl #[.agg #[.bool a3_0, .int .i64 a3_1, .int .i64 a3_2, .int .i64 a3_3, .int .i64 a3_4, .int .i64 a3_5, .int .i64 a3_6], .agg #[.int .i64 a4_0, .int .i64 a4_1], .int .i64 a5] rfl (by (try simp only [List.map_toArray, List.map_cons, List.map_nil]); first | done | rfl | (simp only [List.length_drop, List.length_take]; rfl)) ?_; (with_reducible refine (slotmeshlaw10_isTrue.calls k a3_0 a3_1 a3_2 a3_3 a3_4 a3_5 a3_6 a4_0 a4_1 a5 t311 _ A10.out).mono ?_); rintro e w28 ⟨rfl, hb⟩; refine ⟨_, rfl, ?_⟩; have n0_ := Aside0.mk (blk_below (g := gb305) (o := .cells #[.bool a0_0, .int .i64 a0_1, .int .i64 a0_2, .int .i64 a0_3, .int .i64 a0_4, .int .i64 a0_5, .int .i64 a0_6] 25 (0, 0)) (by (with_reducible repeat (first | refine blk_drewN ?_ _ | refine blk_drew ?_ | refine blk_alloc ?_ _)); exact BK305.out) hb); have n1_ := Aside0.mk (blk_below (g := gb306) (o := .cells #[.int .i64 a1_0, .int .i64 a1_1] 27 (0, 0)) (by (with_reducible repeat (first | refine blk_drewN ?_ _ | refine blk_drew ?_ | refine blk_alloc ?_ _)); exact BK306.out) hb); have n2_ := Aside0.mk (blk_below (g := gb307) (o := .cells #[.bool a3_0, .int .i64 a3_1, .int .i64 a3_2, .int .i64 a3_3, .int .i64 a3_4, .int .i64 a3_5, .int .i64 a3_6] 25 (0, 0)) (by (with_reducible repeat (first | refine blk_drewN ?_ _ | refine blk_drew ?_ | refine blk_alloc ?_ _)); exact BK307.out) hb); have n3_ := Aside0.mk (blk_below (g := gb308) (o := .cells #[.int .i64 a4_0, .int .i64 a4_1] 27 (0, 0)) (by (with_reducible repeat (first | refine blk_drewN ?_ _ | refine blk_drew ?_ | refine blk_alloc ?_ _)); exact BK308.out) hb); have n4_ := Aside0.mk (below_step (by repeat (first | (with_reducible first | exact HB.out | apply below_alloc | apply pw_below_drewN | apply below_drew1 | refine below_set ?_ GE305.out | refine below_set ?_ GE306.out | refine below_set ?_ GE307.out | refine below_set ?_ GE308.out) | exact HB.out)) hb); clear BK305; clear BK306; clear BK307; clear BK308; clear HB; have BK305 := n0_; have BK306 := n1_; have BK307 := n2_; have BK308 := n3_; have HB := n4_; clear n0_ n1_ n2_ n3_ n4_; (try clear hb); (try clear hb2); (try clear hk); (try clear hi)))
  (try simp only [Act.put, List.setIfInBounds_toArray, List.set_cons_zero, List.set_cons_succ])
  go_cut [40] (fun v40 wc => ∃ (kq : Nat) (x40_10 : Bool), v40 = .bool x40_10 ∧ Aside0 (slotmeshlaw10_GuardCaught.j0 kq a6 t309 x40_10 a0_0 a0_1 a0_2 a0_3 a0_4 a0_5 a0_6 a1_0 a1_1 a3_0 a3_1 a3_2 a3_3 a3_4 a3_5 a3_6 a4_0 a4_1 = some r) ∧ Aside0 (kq ≤ k) ∧ Aside0 (wc.heap[gb305]? = some (.cells #[.bool a0_0, .int .i64 a0_1, .int .i64 a0_2, .int .i64 a0_3, .int .i64 a0_4, .int .i64 a0_5, .int .i64 a0_6] 25 (0, 0))) ∧ Aside0 (wc.heap[gb306]? = some (.cells #[.int .i64 a1_0, .int .i64 a1_1] 27 (0, 0))) ∧ Aside0 (wc.heap[gb307]? = some (.cells #[.bool a3_0, .int .i64 a3_1, .int .i64 a3_2, .int .i64 a3_3, .int .i64 a3_4, .int .i64 a3_5, .int .i64 a3_6] 25 (0, 0))) ∧ Aside0 (wc.heap[gb308]? = some (.cells #[.int .i64 a4_0, .int .i64 a4_1] 27 (0, 0))) ∧ Aside0 (Below w.heap.size w wc))
  case first =>
    have H := HC11.out
    clear HC11
    by_cases c29 : t310 = true
    · subst c29
      have H1 : (slotmeshlaw10_GuardCaught.j0 k a6 t309 (!t311) a0_0 a0_1 a0_2 a0_3 a0_4 a0_5 a0_6 a1_0 a1_1 a3_0 a3_1 a3_2 a3_3 a3_4 a3_5 a3_6 a4_0 a4_1) = some r := by rw [if_pos rfl] at H; exact H
      clear H
      have H := H1
      clear H1
      have H' := Aside0.mk H
      clear H
      go_wp2
      go_meet
      case rel => exact ⟨_, (!t311), (by first | rfl | (simp; done) | (simp [*]; done)), H', ⟨by first | omega | exact Nat.le_refl _⟩, ⟨by (with_reducible repeat (first | refine blk_drewN ?_ _ | refine blk_drew ?_ | refine blk_alloc ?_ _)); exact BK305.out⟩, ⟨by (with_reducible repeat (first | refine blk_drewN ?_ _ | refine blk_drew ?_ | refine blk_alloc ?_ _)); exact BK306.out⟩, ⟨by (with_reducible repeat (first | refine blk_drewN ?_ _ | refine blk_drew ?_ | refine blk_alloc ?_ _)); exact BK307.out⟩, ⟨by (with_reducible repeat (first | refine blk_drewN ?_ _ | refine blk_drew ?_ | refine blk_alloc ?_ _)); exact BK308.out⟩, ⟨by repeat (first | (with_reducible first | exact HB.out | apply below_alloc | apply pw_below_drewN | apply below_drew1 | refine below_set ?_ GE305.out | refine below_set ?_ GE306.out | refine below_set ?_ GE307.out | refine below_set ?_ GE308.out) | exact HB.out)⟩⟩
    · replace c29 := Bool.eq_false_iff.mpr c29
      subst c29
      have H1 : (slotmeshlaw10_GuardCaught.j0 k a6 t309 true a0_0 a0_1 a0_2 a0_3 a0_4 a0_5 a0_6 a1_0 a1_1 a3_0 a3_1 a3_2 a3_3 a3_4 a3_5 a3_6 a4_0 a4_1) = some r := by rw [if_neg (show ¬ (false = true) by decide)] at H; exact H
      clear H
      have H := H1
      clear H1
      have H' := Aside0.mk H
      clear H
      go_wp2
      go_meet
      case rel => exact ⟨_, (true), (by first | rfl | (simp; done) | (simp [*]; done)), H', ⟨by first | omega | exact Nat.le_refl _⟩, ⟨by (with_reducible repeat (first | refine blk_drewN ?_ _ | refine blk_drew ?_ | refine blk_alloc ?_ _)); exact BK305.out⟩, ⟨by (with_reducible repeat (first | refine blk_drewN ?_ _ | refine blk_drew ?_ | refine blk_alloc ?_ _)); exact BK306.out⟩, ⟨by (with_reducible repeat (first | refine blk_drewN ?_ _ | refine blk_drew ?_ | refine blk_alloc ?_ _)); exact BK307.out⟩, ⟨by (with_reducible repeat (first | refine blk_drewN ?_ _ | refine blk_drew ?_ | refine blk_alloc ?_ _)); exact BK308.out⟩, ⟨by repeat (first | (with_reducible first | exact HB.out | apply below_alloc | apply pw_below_drewN | apply below_drew1 | refine below_set ?_ GE305.out | refine below_set ?_ GE306.out | refine below_set ?_ GE307.out | refine below_set ?_ GE308.out) | exact HB.out)⟩⟩
  case rest =>
    clear HC11
    try clear c1
    try clear c2
    try clear p2
    try clear c7
    try clear c17
    try clear c18
    try clear c19
    try clear c21
    try clear c22
    try clear c23
    try clear c25
    try clear c29
    try clear hcz20_0
    try clear hcz20_1
    try clear hcz20_2
    try clear hcz20_3
    try clear hcz20_4
    try clear hcz20_5
    try clear hcz20_6
    try clear hcz23_0
    try clear hcz23_1
    try clear hcz26_0
    try clear hcz26_1
    try clear hcz26_2
    try clear hcz26_3
    try clear hcz26_4
    try clear hcz26_5
    try clear hcz26_6
    try clear hcz27_0
    try clear hcz27_1
    try clear hfz20_0
    try clear hfz20_1
    try clear hfz20_2
    try clear hfz20_3
    try clear hfz20_4
    try clear hfz20_5
    try clear hfz20_6
    try clear hfz23_0
    try clear hfz23_1
    try clear hfz26_0
    try clear hfz26_1
    try clear hfz26_2
    try clear hfz26_3
    try clear hfz26_4
    try clear hfz26_5
    try clear hfz26_6
    try clear hfz27_0
    try clear hfz27_1
    obtain ⟨kq, x40_10, rfl, HA, HJ10, BK305, BK306, BK307, BK308, HB⟩ := hcut
    cases kq with
    | zero => exact absurd HA.out (by simp [slotmeshlaw10_GuardCaught.j0])
    | succ kj10 =>
      have H := HA.out
      clear HA
      simp only [slotmeshlaw10_GuardCaught.j0] at H
      by_cases c30 : x40_10 = true
      · subst c30
        have H1 : (some t309) = some r := by rw [if_pos rfl] at H; exact H
        clear H
        have H := H1
        clear H1
        obtain rfl := Option.some.inj H
        go_wp2
        go_ret
        exact ⟨by first | rfl | (simp [errW_none, errW_some] <;> rfl) | (simp [*, errW_none, errW_some] <;> rfl), by repeat (first | (with_reducible first | exact HB.out | apply below_alloc | apply pw_below_drewN | apply below_drew1 | refine below_set ?_ GE305.out | refine below_set ?_ GE306.out | refine below_set ?_ GE307.out | refine below_set ?_ GE308.out) | exact HB.out)⟩
      · replace c30 := Bool.eq_false_iff.mpr c30
        subst c30
        have H1 : ((guard_Send.f kj10 a0_0 a0_1 a0_2 a0_3 a0_4 a0_5 a0_6 a1_0 a1_1 a6).bind fun bt312 => ((guard_Send.f kj10 a3_0 a3_1 a3_2 a3_3 a3_4 a3_5 a3_6 a4_0 a4_1 a6).bind fun bt314 => ((guard_Listen.f kj10 a0_0 a0_1 a0_2 a0_3 a0_4 a0_5 a0_6 a1_0 a1_1 a6).bind fun bt316 => ((guard_Listen.f kj10 a3_0 a3_1 a3_2 a3_3 a3_4 a3_5 a3_6 a4_0 a4_1 a6).bind fun bt320 => (if bt312.2 = bt316.2.2 then (slotmeshlaw10_GuardCaught.j1 kj10 t309 bt312.1 bt312.2 bt314.1 bt314.2 (bt314.2 != bt320.2.2) bt316.1 bt316.2.1 bt320.1 bt320.2.1) else (slotmeshlaw10_GuardCaught.j1 kj10 t309 bt312.1 bt312.2 bt314.1 bt314.2 true bt316.1 bt316.2.1 bt320.1 bt320.2.1)))))) = some r := by rw [if_neg (show ¬ (false = true) by decide)] at H; exact H
        clear H
        have H := H1
        clear H1
        replace H := Option.bind_eq_some_iff.mp H
        obtain ⟨⟨t312, t313⟩, A310, H⟩ := H
        replace H : ((guard_Send.f kj10 a3_0 a3_1 a3_2 a3_3 a3_4 a3_5 a3_6 a4_0 a4_1 a6).bind fun bt314 => ((guard_Listen.f kj10 a0_0 a0_1 a0_2 a0_3 a0_4 a0_5 a0_6 a1_0 a1_1 a6).bind fun bt316 => ((guard_Listen.f kj10 a3_0 a3_1 a3_2 a3_3 a3_4 a3_5 a3_6 a4_0 a4_1 a6).bind fun bt320 => (if t313 = bt316.2.2 then (slotmeshlaw10_GuardCaught.j1 kj10 t309 t312 t313 bt314.1 bt314.2 (bt314.2 != bt320.2.2) bt316.1 bt316.2.1 bt320.1 bt320.2.1) else (slotmeshlaw10_GuardCaught.j1 kj10 t309 t312 t313 bt314.1 bt314.2 true bt316.1 bt316.2.1 bt320.1 bt320.2.1))))) = some r := H
        have A31 := Aside0.mk A310
        clear A310
        replace H := Option.bind_eq_some_iff.mp H
        obtain ⟨⟨t314, t315⟩, A320, H⟩ := H
        replace H : ((guard_Listen.f kj10 a0_0 a0_1 a0_2 a0_3 a0_4 a0_5 a0_6 a1_0 a1_1 a6).bind fun bt316 => ((guard_Listen.f kj10 a3_0 a3_1 a3_2 a3_3 a3_4 a3_5 a3_6 a4_0 a4_1 a6).bind fun bt320 => (if t313 = bt316.2.2 then (slotmeshlaw10_GuardCaught.j1 kj10 t309 t312 t313 t314 t315 (t315 != bt320.2.2) bt316.1 bt316.2.1 bt320.1 bt320.2.1) else (slotmeshlaw10_GuardCaught.j1 kj10 t309 t312 t313 t314 t315 true bt316.1 bt316.2.1 bt320.1 bt320.2.1)))) = some r := H
        have A32 := Aside0.mk A320
        clear A320
        replace H := Option.bind_eq_some_iff.mp H
        obtain ⟨⟨t316, t317, t318⟩, A330, H⟩ := H
        replace H : ((guard_Listen.f kj10 a3_0 a3_1 a3_2 a3_3 a3_4 a3_5 a3_6 a4_0 a4_1 a6).bind fun bt320 => (if t313 = t318 then (slotmeshlaw10_GuardCaught.j1 kj10 t309 t312 t313 t314 t315 (t315 != bt320.2.2) t316 t317 bt320.1 bt320.2.1) else (slotmeshlaw10_GuardCaught.j1 kj10 t309 t312 t313 t314 t315 true t316 t317 bt320.1 bt320.2.1))) = some r := H
        have A33 := Aside0.mk A330
        clear A330
        replace H := Option.bind_eq_some_iff.mp H
        obtain ⟨⟨t320, t321, t322⟩, A340, H⟩ := H
        replace H : (if t313 = t318 then (slotmeshlaw10_GuardCaught.j1 kj10 t309 t312 t313 t314 t315 (t315 != t322) t316 t317 t320 t321) else (slotmeshlaw10_GuardCaught.j1 kj10 t309 t312 t313 t314 t315 true t316 t317 t320 t321)) = some r := H
        have A34 := Aside0.mk A340
        clear A340
        have HC35 := Aside0.mk H
        clear H
        have hnb36 := NB305_306.out
        have hnc36 := NB306_305.out
        have hnb37 := NB305_307.out
        have hnc37 := NB307_305.out
        have hnb38 := NB305_308.out
        have hnc38 := NB308_305.out
        have hcz39_0 : wc.cell? ⟨gb305, 0, none⟩ = some (.bool a0_0) := (blk_cell BK305.out 0).trans rfl
        have hcz39_1 : wc.cell? ⟨gb305, 1, none⟩ = some (.int .i64 a0_1) := (blk_cell BK305.out 1).trans rfl
        have hcz39_2 : wc.cell? ⟨gb305, 2, none⟩ = some (.int .i64 a0_2) := (blk_cell BK305.out 2).trans rfl
        have hcz39_3 : wc.cell? ⟨gb305, 3, none⟩ = some (.int .i64 a0_3) := (blk_cell BK305.out 3).trans rfl
        have hcz39_4 : wc.cell? ⟨gb305, 4, none⟩ = some (.int .i64 a0_4) := (blk_cell BK305.out 4).trans rfl
        have hcz39_5 : wc.cell? ⟨gb305, 5, none⟩ = some (.int .i64 a0_5) := (blk_cell BK305.out 5).trans rfl
        have hcz39_6 : wc.cell? ⟨gb305, 6, none⟩ = some (.int .i64 a0_6) := (blk_cell BK305.out 6).trans rfl
        have hfz39_0 := blk_frozen BK305.out 0
        have hfz39_1 := blk_frozen BK305.out 1
        have hfz39_2 := blk_frozen BK305.out 2
        have hfz39_3 := blk_frozen BK305.out 3
        have hfz39_4 := blk_frozen BK305.out 4
        have hfz39_5 := blk_frozen BK305.out 5
        have hfz39_6 := blk_frozen BK305.out 6
        have hnb40 := NB306_307.out
        have hnc40 := NB307_306.out
        have hnb41 := NB306_308.out
        have hnc41 := NB308_306.out
        have hcz42_0 : wc.cell? ⟨gb306, 0, none⟩ = some (.int .i64 a1_0) := (blk_cell BK306.out 0).trans rfl
        have hcz42_1 : wc.cell? ⟨gb306, 1, none⟩ = some (.int .i64 a1_1) := (blk_cell BK306.out 1).trans rfl
        have hfz42_0 := blk_frozen BK306.out 0
        have hfz42_1 := blk_frozen BK306.out 1
        go_upto_region 10 with (first | ((with_reducible refine gate_callee (f := 13) rfl ?_); refine goesL_ (some 46) rfl rfl Try.func13 (by kernel_rfl) rfl #[.agg #[.bool a0_0, .int .i64 a0_1, .int .i64 a0_2, .int .i64 a0_3, .int .i64 a0_4, .int .i64 a0_5, .int .i64 a0_6], .agg #[.int .i64 a1_0, .int .i64 a1_1], .int .i64 a6] rfl (by (try simp only [List.map_toArray, List.map_cons, List.map_nil]); first | done | rfl | (simp only [List.length_drop, List.length_take]; rfl)) ?_; (with_reducible refine (guard_Send.calls kj10 a0_0 a0_1 a0_2 a0_3 a0_4 a0_5 a0_6 a1_0 a1_1 a6 t312 t313 _ A31.out).mono ?_); rintro e w43 ⟨rfl, hb⟩; refine ⟨_, rfl, ?_⟩; have n0_ := Aside0.mk (blk_below (g := gb305) (o := .cells #[.bool a0_0, .int .i64 a0_1, .int .i64 a0_2, .int .i64 a0_3, .int .i64 a0_4, .int .i64 a0_5, .int .i64 a0_6] 25 (0, 0)) (by (with_reducible repeat (first | refine blk_drewN ?_ _ | refine blk_drew ?_ | refine blk_alloc ?_ _)); exact BK305.out) hb); have n1_ := Aside0.mk (blk_below (g := gb306) (o := .cells #[.int .i64 a1_0, .int .i64 a1_1] 27 (0, 0)) (by (with_reducible repeat (first | refine blk_drewN ?_ _ | refine blk_drew ?_ | refine blk_alloc ?_ _)); exact BK306.out) hb); have n2_ := Aside0.mk (blk_below (g := gb307) (o := .cells #[.bool a3_0, .int .i64 a3_1, .int .i64 a3_2, .int .i64 a3_3, .int .i64 a3_4, .int .i64 a3_5, .int .i64 a3_6] 25 (0, 0)) (by (with_reducible repeat (first | refine blk_drewN ?_ _ | refine blk_drew ?_ | refine blk_alloc ?_ _)); exact BK307.out) hb); have n3_ := Aside0.mk (blk_below (g := gb308) (o := .cells #[.int .i64 a4_0, .int .i64 a4_1] 27 (0, 0)) (by (with_reducible repeat (first | refine blk_drewN ?_ _ | refine blk_drew ?_ | refine blk_alloc ?_ _)); exact BK308.out) hb); have n4_ := Aside0.mk (below_step (by repeat (first | (with_reducible first | exact HB.out | apply below_alloc | apply pw_below_drewN | apply below_drew1 | refine below_set ?_ GE305.out | refine below_set ?_ GE306.out | refine below_set ?_ GE307.out | refine below_set ?_ GE308.out) | exact HB.out)) hb); clear BK305; clear BK306; clear BK307; clear BK308; clear HB; have BK305 := n0_; have BK306 := n1_; have BK307 := n2_; have BK308 := n3_; have HB := n4_; clear n0_ n1_ n2_ n3_ n4_; (try clear hb); (try clear hb2); (try clear hk); (try clear hi); have hnb44 := NB307_308.out; have hnc44 := NB308_307.out; have hcz45_0 : w43.cell? ⟨gb307, 0, none⟩ = some (.bool a3_0) := (blk_cell BK307.out 0).trans rfl; have hcz45_1 : w43.cell? ⟨gb307, 1, none⟩ = some (.int .i64 a3_1) := (blk_cell BK307.out 1).trans rfl; have hcz45_2 : w43.cell? ⟨gb307, 2, none⟩ = some (.int .i64 a3_2) := (blk_cell BK307.out 2).trans rfl; have hcz45_3 : w43.cell? ⟨gb307, 3, none⟩ = some (.int .i64 a3_3) := (blk_cell BK307.out 3).trans rfl; have hcz45_4 : w43.cell? ⟨gb307, 4, none⟩ = some (.int .i64 a3_4) := (blk_cell BK307.out 4).trans rfl; have hcz45_5 : w43.cell? ⟨gb307, 5, none⟩ = some (.int .i64 a3_5) := (blk_cell BK307.out 5).trans rfl; have hcz45_6 : w43.cell? ⟨gb307, 6, none⟩ = some (.int .i64 a3_6) := (blk_cell BK307.out 6).trans rfl; have hfz45_0 := blk_frozen BK307.out 0; have hfz45_1 := blk_frozen BK307.out 1; have hfz45_2 := blk_frozen BK307.out 2; have hfz45_3 := blk_frozen BK307.out 3; have hfz45_4 := blk_frozen BK307.out 4; have hfz45_5 := blk_frozen BK307.out 5; have hfz45_6 := blk_frozen BK307.out 6; have hcz46_0 : w43.cell? ⟨gb308, 0, none⟩ = some (.int .i64 a4_0) := (blk_cell BK308.out 0).trans rfl; have hcz46_1 : w43.cell? ⟨gb308, 1, none⟩ = some (.int .i64 a4_1) := (blk_cell BK308.out 1).trans rfl; have hfz46_0 := blk_frozen BK308.out 0; have hfz46_1 := blk_frozen BK308.out 1) | ((with_reducible refine gate_callee (f := 13) rfl ?_); refine goesL_ (some 53) rfl rfl Try.func13 (by kernel_rfl) rfl #[.agg #[.bool a3_0, .int .i64 a3_1, .int .i64 a3_2, .int .i64 a3_3, .int .i64 a3_4, .int .i64 a3_5, .int .i64 a3_6], .agg #[.int .i64 a4_0, .int .i64 a4_1], .int .i64 a6] rfl (by (try simp only [List.map_toArray, List.map_cons, List.map_nil]); first | done | rfl | (simp only [List.length_drop, List.length_take]; rfl)) ?_; (with_reducible refine (guard_Send.calls kj10 a3_0 a3_1 a3_2 a3_3 a3_4 a3_5 a3_6 a4_0 a4_1 a6 t314 t315 _ A32.out).mono ?_); rintro e w47 ⟨rfl, hb⟩; refine ⟨_, rfl, ?_⟩; have n0_ := Aside0.mk (blk_below (g := gb305) (o := .cells #[.bool a0_0, .int .i64 a0_1, .int .i64 a0_2, .int .i64 a0_3, .int .i64 a0_4, .int .i64 a0_5, .int .i64 a0_6] 25 (0, 0)) (by (with_reducible repeat (first | refine blk_drewN ?_ _ | refine blk_drew ?_ | refine blk_alloc ?_ _)); exact BK305.out) hb); have n1_ := Aside0.mk (blk_below (g := gb306) (o := .cells #[.int .i64 a1_0, .int .i64 a1_1] 27 (0, 0)) (by (with_reducible repeat (first | refine blk_drewN ?_ _ | refine blk_drew ?_ | refine blk_alloc ?_ _)); exact BK306.out) hb); have n2_ := Aside0.mk (blk_below (g := gb307) (o := .cells #[.bool a3_0, .int .i64 a3_1, .int .i64 a3_2, .int .i64 a3_3, .int .i64 a3_4, .int .i64 a3_5, .int .i64 a3_6] 25 (0, 0)) (by (with_reducible repeat (first | refine blk_drewN ?_ _ | refine blk_drew ?_ | refine blk_alloc ?_ _)); exact BK307.out) hb); have n3_ := Aside0.mk (blk_below (g := gb308) (o := .cells #[.int .i64 a4_0, .int .i64 a4_1] 27 (0, 0)) (by (with_reducible repeat (first | refine blk_drewN ?_ _ | refine blk_drew ?_ | refine blk_alloc ?_ _)); exact BK308.out) hb); have n4_ := Aside0.mk (below_step (by repeat (first | (with_reducible first | exact HB.out | apply below_alloc | apply pw_below_drewN | apply below_drew1 | refine below_set ?_ GE305.out | refine below_set ?_ GE306.out | refine below_set ?_ GE307.out | refine below_set ?_ GE308.out) | exact HB.out)) hb); clear BK305; clear BK306; clear BK307; clear BK308; clear HB; have BK305 := n0_; have BK306 := n1_; have BK307 := n2_; have BK308 := n3_; have HB := n4_; clear n0_ n1_ n2_ n3_ n4_; (try clear hb); (try clear hb2); (try clear hk); (try clear hi); have hcz48_0 : w47.cell? ⟨gb305, 0, none⟩ = some (.bool a0_0) := (blk_cell BK305.out 0).trans rfl; have hcz48_1 : w47.cell? ⟨gb305, 1, none⟩ = some (.int .i64 a0_1) := (blk_cell BK305.out 1).trans rfl; have hcz48_2 : w47.cell? ⟨gb305, 2, none⟩ = some (.int .i64 a0_2) := (blk_cell BK305.out 2).trans rfl; have hcz48_3 : w47.cell? ⟨gb305, 3, none⟩ = some (.int .i64 a0_3) := (blk_cell BK305.out 3).trans rfl; have hcz48_4 : w47.cell? ⟨gb305, 4, none⟩ = some (.int .i64 a0_4) := (blk_cell BK305.out 4).trans rfl; have hcz48_5 : w47.cell? ⟨gb305, 5, none⟩ = some (.int .i64 a0_5) := (blk_cell BK305.out 5).trans rfl; have hcz48_6 : w47.cell? ⟨gb305, 6, none⟩ = some (.int .i64 a0_6) := (blk_cell BK305.out 6).trans rfl; have hfz48_0 := blk_frozen BK305.out 0; have hfz48_1 := blk_frozen BK305.out 1; have hfz48_2 := blk_frozen BK305.out 2; have hfz48_3 := blk_frozen BK305.out 3; have hfz48_4 := blk_frozen BK305.out 4; have hfz48_5 := blk_frozen BK305.out 5; have hfz48_6 := blk_frozen BK305.out 6; have hcz49_0 : w47.cell? ⟨gb306, 0, none⟩ = some (.int .i64 a1_0) := (blk_cell BK306.out 0).trans rfl; have hcz49_1 : w47.cell? ⟨gb306, 1, none⟩ = some (.int .i64 a1_1) := (blk_cell BK306.out 1).trans rfl; have hfz49_0 := blk_frozen BK306.out 0; have hfz49_1 := blk_frozen BK306.out 1) | ((with_reducible refine gate_callee (f := 25) rfl ?_); refine goesL_ (some 60) rfl rfl Try.func25 (by kernel_rfl) rfl #[.agg #[.bool a0_0, .int .i64 a0_1, .int .i64 a0_2, .int .i64 a0_3, .int .i64 a0_4, .int .i64 a0_5, .int .i64 a0_6], .agg #[.int .i64 a1_0, .int .i64 a1_1], .int .i64 a6] rfl (by (try simp only [List.map_toArray, List.map_cons, List.map_nil]); first | done | rfl | (simp only [List.length_drop, List.length_take]; rfl)) ?_; (with_reducible refine (guard_Listen.calls kj10 a0_0 a0_1 a0_2 a0_3 a0_4 a0_5 a0_6 a1_0 a1_1 a6 t316 t317 t318 _ A33.out).mono ?_); rintro e w50 ⟨rfl, hb⟩; refine ⟨_, rfl, ?_⟩; have n0_ := Aside0.mk (blk_below (g := gb305) (o := .cells #[.bool a0_0, .int .i64 a0_1, .int .i64 a0_2, .int .i64 a0_3, .int .i64 a0_4, .int .i64 a0_5, .int .i64 a0_6] 25 (0, 0)) (by (with_reducible repeat (first | refine blk_drewN ?_ _ | refine blk_drew ?_ | refine blk_alloc ?_ _)); exact BK305.out) hb); have n1_ := Aside0.mk (blk_below (g := gb306) (o := .cells #[.int .i64 a1_0, .int .i64 a1_1] 27 (0, 0)) (by (with_reducible repeat (first | refine blk_drewN ?_ _ | refine blk_drew ?_ | refine blk_alloc ?_ _)); exact BK306.out) hb); have n2_ := Aside0.mk (blk_below (g := gb307) (o := .cells #[.bool a3_0, .int .i64 a3_1, .int .i64 a3_2, .int .i64 a3_3, .int .i64 a3_4, .int .i64 a3_5, .int .i64 a3_6] 25 (0, 0)) (by (with_reducible repeat (first | refine blk_drewN ?_ _ | refine blk_drew ?_ | refine blk_alloc ?_ _)); exact BK307.out) hb); have n3_ := Aside0.mk (blk_below (g := gb308) (o := .cells #[.int .i64 a4_0, .int .i64 a4_1] 27 (0, 0)) (by (with_reducible repeat (first | refine blk_drewN ?_ _ | refine blk_drew ?_ | refine blk_alloc ?_ _)); exact BK308.out) hb); have n4_ := Aside0.mk (below_step (by repeat (first | (with_reducible first | exact HB.out | apply below_alloc | apply pw_below_drewN | apply below_drew1 | refine below_set ?_ GE305.out | refine below_set ?_ GE306.out | refine below_set ?_ GE307.out | refine below_set ?_ GE308.out) | exact HB.out)) hb); clear BK305; clear BK306; clear BK307; clear BK308; clear HB; have BK305 := n0_; have BK306 := n1_; have BK307 := n2_; have BK308 := n3_; have HB := n4_; clear n0_ n1_ n2_ n3_ n4_; (try clear hb); (try clear hb2); (try clear hk); (try clear hi)) | ((with_reducible refine gate_dst (N := 22) rfl ?_); refine box_event ?hg (N := 22) ?hd (cs := #[.int .i64 0, .int .i64 0]) (t := 55) ?hr ?_; (case hd => rfl); (case hg => rfl); (case hr => first | (go_simp; done) | (go_simp; rfl)); intro gb319 hg w51 hbox hb; have n0_ := Aside0.mk (blk_below (g := gb305) (o := .cells #[.bool a0_0, .int .i64 a0_1, .int .i64 a0_2, .int .i64 a0_3, .int .i64 a0_4, .int .i64 a0_5, .int .i64 a0_6] 25 (0, 0)) (by (with_reducible repeat (first | refine blk_drewN ?_ _ | refine blk_drew ?_ | refine blk_alloc ?_ _)); exact BK305.out) hb); have n1_ := Aside0.mk (blk_below (g := gb306) (o := .cells #[.int .i64 a1_0, .int .i64 a1_1] 27 (0, 0)) (by (with_reducible repeat (first | refine blk_drewN ?_ _ | refine blk_drew ?_ | refine blk_alloc ?_ _)); exact BK306.out) hb); have n2_ := Aside0.mk (blk_below (g := gb307) (o := .cells #[.bool a3_0, .int .i64 a3_1, .int .i64 a3_2, .int .i64 a3_3, .int .i64 a3_4, .int .i64 a3_5, .int .i64 a3_6] 25 (0, 0)) (by (with_reducible repeat (first | refine blk_drewN ?_ _ | refine blk_drew ?_ | refine blk_alloc ?_ _)); exact BK307.out) hb); have n3_ := Aside0.mk (blk_below (g := gb308) (o := .cells #[.int .i64 a4_0, .int .i64 a4_1] 27 (0, 0)) (by (with_reducible repeat (first | refine blk_drewN ?_ _ | refine blk_drew ?_ | refine blk_alloc ?_ _)); exact BK308.out) hb); have n4_ := Aside0.mk (below_step (by repeat (first | (with_reducible first | exact HB.out | apply below_alloc | apply pw_below_drewN | apply below_drew1 | refine below_set ?_ GE305.out | refine below_set ?_ GE306.out | refine below_set ?_ GE307.out | refine below_set ?_ GE308.out) | exact HB.out)) hb); have n5_ := Aside0.mk (hbox); have n6_ := Aside0.mk ((by rw [hg]; exact (below_size (by repeat (first | (with_reducible first | exact HB.out | apply below_alloc | apply pw_below_drewN | apply below_drew1 | refine below_set ?_ GE305.out | refine below_set ?_ GE306.out | refine below_set ?_ GE307.out | refine below_set ?_ GE308.out) | exact HB.out))) : w.heap.size ≤ gb319)); have n7_ := Aside0.mk ((by rw [hg]; exact (below_size (by repeat (first | (with_reducible first | exact HB.out | apply below_alloc | apply pw_below_drewN | apply below_drew1 | refine below_set ?_ GE305.out | refine below_set ?_ GE306.out | refine below_set ?_ GE307.out | refine below_set ?_ GE308.out) | exact HB.out))) : w.heap.size ≤ gb319)); have n8_ := Aside0.mk ((by rw [hg]; exact Nat.ne_of_lt (blk_lt (g := gb305) (o := .cells #[.bool a0_0, .int .i64 a0_1, .int .i64 a0_2, .int .i64 a0_3, .int .i64 a0_4, .int .i64 a0_5, .int .i64 a0_6] 25 (0, 0)) (by (with_reducible repeat (first | refine blk_drewN ?_ _ | refine blk_drew ?_ | refine blk_alloc ?_ _)); exact BK305.out)) : gb305 ≠ gb319)); have n9_ := Aside0.mk ((by rw [hg]; exact Nat.ne_of_gt (blk_lt (g := gb305) (o := .cells #[.bool a0_0, .int .i64 a0_1, .int .i64 a0_2, .int .i64 a0_3, .int .i64 a0_4, .int .i64 a0_5, .int .i64 a0_6] 25 (0, 0)) (by (with_reducible repeat (first | refine blk_drewN ?_ _ | refine blk_drew ?_ | refine blk_alloc ?_ _)); exact BK305.out)) : gb319 ≠ gb305)); have n10_ := Aside0.mk ((by rw [hg]; exact Nat.ne_of_lt (blk_lt (g := gb306) (o := .cells #[.int .i64 a1_0, .int .i64 a1_1] 27 (0, 0)) (by (with_reducible repeat (first | refine blk_drewN ?_ _ | refine blk_drew ?_ | refine blk_alloc ?_ _)); exact BK306.out)) : gb306 ≠ gb319)); have n11_ := Aside0.mk ((by rw [hg]; exact Nat.ne_of_gt (blk_lt (g := gb306) (o := .cells #[.int .i64 a1_0, .int .i64 a1_1] 27 (0, 0)) (by (with_reducible repeat (first | refine blk_drewN ?_ _ | refine blk_drew ?_ | refine blk_alloc ?_ _)); exact BK306.out)) : gb319 ≠ gb306)); have n12_ := Aside0.mk ((by rw [hg]; exact Nat.ne_of_lt (blk_lt (g := gb307) (o := .cells #[.bool a3_0, .int .i64 a3_1, .int .i64 a3_2, .int .i64 a3_3, .int .i64 a3_4, .int .i64 a3_5, .int .i64 a3_6] 25 (0, 0)) (by (with_reducible repeat (first | refine blk_drewN ?_ _ | refine blk_drew ?_ | refine blk_alloc ?_ _)); exact BK307.out)) : gb307 ≠ gb319)); have n13_ := Aside0.mk ((by rw [hg]; exact Nat.ne_of_gt (blk_lt (g := gb307) (o := .cells #[.bool a3_0, .int .i64 a3_1, .int .i64 a3_2, .int .i64 a3_3, .int .i64 a3_4, .int .i64 a3_5, .int .i64 a3_6] 25 (0, 0)) (by (with_reducible repeat (first | refine blk_drewN ?_ _ | refine blk_drew ?_ | refine blk_alloc ?_ _)); exact BK307.out)) : gb319 ≠ gb307)); have n14_ := Aside0.mk ((by rw [hg]; exact Nat.ne_of_lt (blk_lt (g := gb308) (o := .cells #[.int .i64 a4_0, .int .i64 a4_1] 27 (0, 0)) (by (with_reducible repeat (first | refine blk_drewN ?_ _ | refine blk_drew ?_ | refine blk_alloc ?_ _)); exact BK308.out)) : gb308 ≠ gb319)); have n15_ := Aside0.mk ((by rw [hg]; exact Nat.ne_of_gt (blk_lt (g := gb308) (o := .cells #[.int .i64 a4_0, .int .i64 a4_1] 27 (0, 0)) (by (with_reducible repeat (first | refine blk_drewN ?_ _ | refine blk_drew ?_ | refine blk_alloc ?_ _)); exact BK308.out)) : gb319 ≠ gb308)); clear BK305; clear BK306; clear BK307; clear BK308; clear HB; have BK305 := n0_; have BK306 := n1_; have BK307 := n2_; have BK308 := n3_; have HB := n4_; have BK319 := n5_; have GW319 := n6_; have GE319 := n7_; have NB305_319 := n8_; have NB319_305 := n9_; have NB306_319 := n10_; have NB319_306 := n11_; have NB307_319 := n12_; have NB319_307 := n13_; have NB308_319 := n14_; have NB319_308 := n15_; clear n0_ n1_ n2_ n3_ n4_ n5_ n6_ n7_ n8_ n9_ n10_ n11_ n12_ n13_ n14_ n15_; clear hb hbox hg; have hnb52 := NB319_305.out; have hnc52 := NB305_319.out; have hnb53 := NB319_306.out; have hnc53 := NB306_319.out; have hnb54 := NB319_307.out; have hnc54 := NB307_319.out; have hnb55 := NB319_308.out; have hnc55 := NB308_319.out; have hcz56_0 : w51.cell? ⟨gb319, 0, none⟩ = some (.int .i64 0) := (blk_cell BK319.out 0).trans rfl; have hcz56_1 : w51.cell? ⟨gb319, 1, none⟩ = some (.int .i64 0) := (blk_cell BK319.out 1).trans rfl; have hfz56_0 := blk_frozen BK319.out 0; have hfz56_1 := blk_frozen BK319.out 1; have hcz57_0 : w51.cell? ⟨gb307, 0, none⟩ = some (.bool a3_0) := (blk_cell BK307.out 0).trans rfl; have hcz57_1 : w51.cell? ⟨gb307, 1, none⟩ = some (.int .i64 a3_1) := (blk_cell BK307.out 1).trans rfl; have hcz57_2 : w51.cell? ⟨gb307, 2, none⟩ = some (.int .i64 a3_2) := (blk_cell BK307.out 2).trans rfl; have hcz57_3 : w51.cell? ⟨gb307, 3, none⟩ = some (.int .i64 a3_3) := (blk_cell BK307.out 3).trans rfl; have hcz57_4 : w51.cell? ⟨gb307, 4, none⟩ = some (.int .i64 a3_4) := (blk_cell BK307.out 4).trans rfl; have hcz57_5 : w51.cell? ⟨gb307, 5, none⟩ = some (.int .i64 a3_5) := (blk_cell BK307.out 5).trans rfl; have hcz57_6 : w51.cell? ⟨gb307, 6, none⟩ = some (.int .i64 a3_6) := (blk_cell BK307.out 6).trans rfl; have hfz57_0 := blk_frozen BK307.out 0; have hfz57_1 := blk_frozen BK307.out 1; have hfz57_2 := blk_frozen BK307.out 2; have hfz57_3 := blk_frozen BK307.out 3; have hfz57_4 := blk_frozen BK307.out 4; have hfz57_5 := blk_frozen BK307.out 5; have hfz57_6 := blk_frozen BK307.out 6; have hcz58_0 : w51.cell? ⟨gb308, 0, none⟩ = some (.int .i64 a4_0) := (blk_cell BK308.out 0).trans rfl; have hcz58_1 : w51.cell? ⟨gb308, 1, none⟩ = some (.int .i64 a4_1) := (blk_cell BK308.out 1).trans rfl; have hfz58_0 := blk_frozen BK308.out 0; have hfz58_1 := blk_frozen BK308.out 1) | ((with_reducible refine gate_callee (f := 25) rfl ?_); refine goesL_ (some 67) rfl rfl Try.func25 (by kernel_rfl) rfl #[.agg #[.bool a3_0, .int .i64 a3_1, .int .i64 a3_2, .int .i64 a3_3, .int .i64 a3_4, .int .i64 a3_5, .int .i64 a3_6], .agg #[.int .i64 a4_0, .int .i64 a4_1], .int .i64 a6] rfl (by (try simp only [List.map_toArray, List.map_cons, List.map_nil]); first | done | rfl | (simp only [List.length_drop, List.length_take]; rfl)) ?_; (with_reducible refine (guard_Listen.calls kj10 a3_0 a3_1 a3_2 a3_3 a3_4 a3_5 a3_6 a4_0 a4_1 a6 t320 t321 t322 _ A34.out).mono ?_); rintro e w59 ⟨rfl, hb⟩; refine ⟨_, rfl, ?_⟩; have n0_ := Aside0.mk (blk_below (g := gb305) (o := .cells #[.bool a0_0, .int .i64 a0_1, .int .i64 a0_2, .int .i64 a0_3, .int .i64 a0_4, .int .i64 a0_5, .int .i64 a0_6] 25 (0, 0)) (by (with_reducible repeat (first | refine blk_drewN ?_ _ | refine blk_drew ?_ | refine blk_alloc ?_ _)); refine blk_far ?_ NB305_319.out _; (with_reducible repeat (first | refine blk_drewN ?_ _ | refine blk_drew ?_ | refine blk_alloc ?_ _)); refine blk_far ?_ NB305_319.out _; (with_reducible repeat (first | refine blk_drewN ?_ _ | refine blk_drew ?_ | refine blk_alloc ?_ _)); exact BK305.out) hb); have n1_ := Aside0.mk (blk_below (g := gb306) (o := .cells #[.int .i64 a1_0, .int .i64 a1_1] 27 (0, 0)) (by (with_reducible repeat (first | refine blk_drewN ?_ _ | refine blk_drew ?_ | refine blk_alloc ?_ _)); refine blk_far ?_ NB306_319.out _; (with_reducible repeat (first | refine blk_drewN ?_ _ | refine blk_drew ?_ | refine blk_alloc ?_ _)); refine blk_far ?_ NB306_319.out _; (with_reducible repeat (first | refine blk_drewN ?_ _ | refine blk_drew ?_ | refine blk_alloc ?_ _)); exact BK306.out) hb); have n2_ := Aside0.mk (blk_below (g := gb307) (o := .cells #[.bool a3_0, .int .i64 a3_1, .int .i64 a3_2, .int .i64 a3_3, .int .i64 a3_4, .int .i64 a3_5, .int .i64 a3_6] 25 (0, 0)) (by (with_reducible repeat (first | refine blk_drewN ?_ _ | refine blk_drew ?_ | refine blk_alloc ?_ _)); refine blk_far ?_ NB307_319.out _; (with_reducible repeat (first | refine blk_drewN ?_ _ | refine blk_drew ?_ | refine blk_alloc ?_ _)); refine blk_far ?_ NB307_319.out _; (with_reducible repeat (first | refine blk_drewN ?_ _ | refine blk_drew ?_ | refine blk_alloc ?_ _)); exact BK307.out) hb); have n3_ := Aside0.mk (blk_below (g := gb308) (o := .cells #[.int .i64 a4_0, .int .i64 a4_1] 27 (0, 0)) (by (with_reducible repeat (first | refine blk_drewN ?_ _ | refine blk_drew ?_ | refine blk_alloc ?_ _)); refine blk_far ?_ NB308_319.out _; (with_reducible repeat (first | refine blk_drewN ?_ _ | refine blk_drew ?_ | refine blk_alloc ?_ _)); refine blk_far ?_ NB308_319.out _; (with_reducible repeat (first | refine blk_drewN ?_ _ | refine blk_drew ?_ | refine blk_alloc ?_ _)); exact BK308.out) hb); have n4_ := Aside0.mk (blk_below (g := gb319) (o := .cells #[.int .i64 t316, .int .i64 t317] 55 (0, 0)) (by (with_reducible repeat (first | refine blk_drewN ?_ _ | refine blk_drew ?_ | refine blk_alloc ?_ _)); refine blk_put (cs := #[.int .i64 t316, .int .i64 0]) ?_ 1 _ rfl; (with_reducible repeat (first | refine blk_drewN ?_ _ | refine blk_drew ?_ | refine blk_alloc ?_ _)); refine blk_put (cs := #[.int .i64 0, .int .i64 0]) ?_ 0 _ rfl; (with_reducible repeat (first | refine blk_drewN ?_ _ | refine blk_drew ?_ | refine blk_alloc ?_ _)); exact BK319.out) hb); have n5_ := Aside0.mk (below_step (by repeat (first | (with_reducible first | exact HB.out | apply below_alloc | apply pw_below_drewN | apply below_drew1 | refine below_set ?_ GE305.out | refine below_set ?_ GE306.out | refine below_set ?_ GE307.out | refine below_set ?_ GE308.out | refine below_set ?_ GE319.out) | exact HB.out)) hb); clear BK305; clear BK306; clear BK307; clear BK308; clear BK319; clear HB; have BK305 := n0_; have BK306 := n1_; have BK307 := n2_; have BK308 := n3_; have BK319 := n4_; have HB := n5_; clear n0_ n1_ n2_ n3_ n4_ n5_; (try clear hb); (try clear hb2); (try clear hk); (try clear hi)) | ((with_reducible refine gate_dst (N := 24) rfl ?_); refine box_event ?hg (N := 24) ?hd (cs := #[.int .i64 0, .int .i64 0]) (t := 55) ?hr ?_; (case hd => rfl); (case hg => rfl); (case hr => first | (go_simp; done) | (go_simp; rfl)); intro gb323 hg w60 hbox hb; have n0_ := Aside0.mk (blk_below (g := gb305) (o := .cells #[.bool a0_0, .int .i64 a0_1, .int .i64 a0_2, .int .i64 a0_3, .int .i64 a0_4, .int .i64 a0_5, .int .i64 a0_6] 25 (0, 0)) (by (with_reducible repeat (first | refine blk_drewN ?_ _ | refine blk_drew ?_ | refine blk_alloc ?_ _)); exact BK305.out) hb); have n1_ := Aside0.mk (blk_below (g := gb306) (o := .cells #[.int .i64 a1_0, .int .i64 a1_1] 27 (0, 0)) (by (with_reducible repeat (first | refine blk_drewN ?_ _ | refine blk_drew ?_ | refine blk_alloc ?_ _)); exact BK306.out) hb); have n2_ := Aside0.mk (blk_below (g := gb307) (o := .cells #[.bool a3_0, .int .i64 a3_1, .int .i64 a3_2, .int .i64 a3_3, .int .i64 a3_4, .int .i64 a3_5, .int .i64 a3_6] 25 (0, 0)) (by (with_reducible repeat (first | refine blk_drewN ?_ _ | refine blk_drew ?_ | refine blk_alloc ?_ _)); exact BK307.out) hb); have n3_ := Aside0.mk (blk_below (g := gb308) (o := .cells #[.int .i64 a4_0, .int .i64 a4_1] 27 (0, 0)) (by (with_reducible repeat (first | refine blk_drewN ?_ _ | refine blk_drew ?_ | refine blk_alloc ?_ _)); exact BK308.out) hb); have n4_ := Aside0.mk (blk_below (g := gb319) (o := .cells #[.int .i64 t316, .int .i64 t317] 55 (0, 0)) (by (with_reducible repeat (first | refine blk_drewN ?_ _ | refine blk_drew ?_ | refine blk_alloc ?_ _)); exact BK319.out) hb); have n5_ := Aside0.mk (below_step (by repeat (first | (with_reducible first | exact HB.out | apply below_alloc | apply pw_below_drewN | apply below_drew1 | refine below_set ?_ GE305.out | refine below_set ?_ GE306.out | refine below_set ?_ GE307.out | refine below_set ?_ GE308.out | refine below_set ?_ GE319.out) | exact HB.out)) hb); have n6_ := Aside0.mk (hbox); have n7_ := Aside0.mk ((by rw [hg]; exact (below_size (by repeat (first | (with_reducible first | exact HB.out | apply below_alloc | apply pw_below_drewN | apply below_drew1 | refine below_set ?_ GE305.out | refine below_set ?_ GE306.out | refine below_set ?_ GE307.out | refine below_set ?_ GE308.out | refine below_set ?_ GE319.out) | exact HB.out))) : w.heap.size ≤ gb323)); have n8_ := Aside0.mk ((by rw [hg]; exact (below_size (by repeat (first | (with_reducible first | exact HB.out | apply below_alloc | apply pw_below_drewN | apply below_drew1 | refine below_set ?_ GE305.out | refine below_set ?_ GE306.out | refine below_set ?_ GE307.out | refine below_set ?_ GE308.out | refine below_set ?_ GE319.out) | exact HB.out))) : w.heap.size ≤ gb323)); have n9_ := Aside0.mk ((by rw [hg]; exact Nat.ne_of_lt (blk_lt (g := gb305) (o := .cells #[.bool a0_0, .int .i64 a0_1, .int .i64 a0_2, .int .i64 a0_3, .int .i64 a0_4, .int .i64 a0_5, .int .i64 a0_6] 25 (0, 0)) (by (with_reducible repeat (first | refine blk_drewN ?_ _ | refine blk_drew ?_ | refine blk_alloc ?_ _)); exact BK305.out)) : gb305 ≠ gb323)); have n10_ := Aside0.mk ((by rw [hg]; exact Nat.ne_of_gt (blk_lt (g := gb305) (o := .cells #[.bool a0_0, .int .i64 a0_1, .int .i64 a0_2, .int .i64 a0_3, .int .i64 a0_4, .int .i64 a0_5, .int .i64 a0_6] 25 (0, 0)) (by (with_reducible repeat (first | refine blk_drewN ?_ _ | refine blk_drew ?_ | refine blk_alloc ?_ _)); exact BK305.out)) : gb323 ≠ gb305)); have n11_ := Aside0.mk ((by rw [hg]; exact Nat.ne_of_lt (blk_lt (g := gb306) (o := .cells #[.int .i64 a1_0, .int .i64 a1_1] 27 (0, 0)) (by (with_reducible repeat (first | refine blk_drewN ?_ _ | refine blk_drew ?_ | refine blk_alloc ?_ _)); exact BK306.out)) : gb306 ≠ gb323)); have n12_ := Aside0.mk ((by rw [hg]; exact Nat.ne_of_gt (blk_lt (g := gb306) (o := .cells #[.int .i64 a1_0, .int .i64 a1_1] 27 (0, 0)) (by (with_reducible repeat (first | refine blk_drewN ?_ _ | refine blk_drew ?_ | refine blk_alloc ?_ _)); exact BK306.out)) : gb323 ≠ gb306)); have n13_ := Aside0.mk ((by rw [hg]; exact Nat.ne_of_lt (blk_lt (g := gb307) (o := .cells #[.bool a3_0, .int .i64 a3_1, .int .i64 a3_2, .int .i64 a3_3, .int .i64 a3_4, .int .i64 a3_5, .int .i64 a3_6] 25 (0, 0)) (by (with_reducible repeat (first | refine blk_drewN ?_ _ | refine blk_drew ?_ | refine blk_alloc ?_ _)); exact BK307.out)) : gb307 ≠ gb323)); have n14_ := Aside0.mk ((by rw [hg]; exact Nat.ne_of_gt (blk_lt (g := gb307) (o := .cells #[.bool a3_0, .int .i64 a3_1, .int .i64 a3_2, .int .i64 a3_3, .int .i64 a3_4, .int .i64 a3_5, .int .i64 a3_6] 25 (0, 0)) (by (with_reducible repeat (first | refine blk_drewN ?_ _ | refine blk_drew ?_ | refine blk_alloc ?_ _)); exact BK307.out)) : gb323 ≠ gb307)); have n15_ := Aside0.mk ((by rw [hg]; exact Nat.ne_of_lt (blk_lt (g := gb308) (o := .cells #[.int .i64 a4_0, .int .i64 a4_1] 27 (0, 0)) (by (with_reducible repeat (first | refine blk_drewN ?_ _ | refine blk_drew ?_ | refine blk_alloc ?_ _)); exact BK308.out)) : gb308 ≠ gb323)); have n16_ := Aside0.mk ((by rw [hg]; exact Nat.ne_of_gt (blk_lt (g := gb308) (o := .cells #[.int .i64 a4_0, .int .i64 a4_1] 27 (0, 0)) (by (with_reducible repeat (first | refine blk_drewN ?_ _ | refine blk_drew ?_ | refine blk_alloc ?_ _)); exact BK308.out)) : gb323 ≠ gb308)); have n17_ := Aside0.mk ((by rw [hg]; exact Nat.ne_of_lt (blk_lt (g := gb319) (o := .cells #[.int .i64 t316, .int .i64 t317] 55 (0, 0)) (by (with_reducible repeat (first | refine blk_drewN ?_ _ | refine blk_drew ?_ | refine blk_alloc ?_ _)); exact BK319.out)) : gb319 ≠ gb323)); have n18_ := Aside0.mk ((by rw [hg]; exact Nat.ne_of_gt (blk_lt (g := gb319) (o := .cells #[.int .i64 t316, .int .i64 t317] 55 (0, 0)) (by (with_reducible repeat (first | refine blk_drewN ?_ _ | refine blk_drew ?_ | refine blk_alloc ?_ _)); exact BK319.out)) : gb323 ≠ gb319)); clear BK305; clear BK306; clear BK307; clear BK308; clear BK319; clear HB; have BK305 := n0_; have BK306 := n1_; have BK307 := n2_; have BK308 := n3_; have BK319 := n4_; have HB := n5_; have BK323 := n6_; have GW323 := n7_; have GE323 := n8_; have NB305_323 := n9_; have NB323_305 := n10_; have NB306_323 := n11_; have NB323_306 := n12_; have NB307_323 := n13_; have NB323_307 := n14_; have NB308_323 := n15_; have NB323_308 := n16_; have NB319_323 := n17_; have NB323_319 := n18_; clear n0_ n1_ n2_ n3_ n4_ n5_ n6_ n7_ n8_ n9_ n10_ n11_ n12_ n13_ n14_ n15_ n16_ n17_ n18_; clear hb hbox hg; have hnb61 := NB323_305.out; have hnc61 := NB305_323.out; have hnb62 := NB323_306.out; have hnc62 := NB306_323.out; have hnb63 := NB323_307.out; have hnc63 := NB307_323.out; have hnb64 := NB323_308.out; have hnc64 := NB308_323.out; have hnb65 := NB323_319.out; have hnc65 := NB319_323.out; have hcz66_0 : w60.cell? ⟨gb323, 0, none⟩ = some (.int .i64 0) := (blk_cell BK323.out 0).trans rfl; have hcz66_1 : w60.cell? ⟨gb323, 1, none⟩ = some (.int .i64 0) := (blk_cell BK323.out 1).trans rfl; have hfz66_0 := blk_frozen BK323.out 0; have hfz66_1 := blk_frozen BK323.out 1))
        (try simp only [Act.put, List.setIfInBounds_toArray, List.set_cons_zero, List.set_cons_succ])
        go_cut [77] (fun v77 wc => ∃ (kq : Nat) (x77_34 : Bool), v77 = .bool x77_34 ∧ Aside0 (slotmeshlaw10_GuardCaught.j1 kq t309 t312 t313 t314 t315 x77_34 t316 t317 t320 t321 = some r) ∧ Aside0 (kq ≤ kj10) ∧ Aside0 (wc.heap[gb305]? = some (.cells #[.bool a0_0, .int .i64 a0_1, .int .i64 a0_2, .int .i64 a0_3, .int .i64 a0_4, .int .i64 a0_5, .int .i64 a0_6] 25 (0, 0))) ∧ Aside0 (wc.heap[gb306]? = some (.cells #[.int .i64 a1_0, .int .i64 a1_1] 27 (0, 0))) ∧ Aside0 (wc.heap[gb307]? = some (.cells #[.bool a3_0, .int .i64 a3_1, .int .i64 a3_2, .int .i64 a3_3, .int .i64 a3_4, .int .i64 a3_5, .int .i64 a3_6] 25 (0, 0))) ∧ Aside0 (wc.heap[gb308]? = some (.cells #[.int .i64 a4_0, .int .i64 a4_1] 27 (0, 0))) ∧ Aside0 (wc.heap[gb319]? = some (.cells #[.int .i64 t316, .int .i64 t317] 55 (0, 0))) ∧ Aside0 (wc.heap[gb323]? = some (.cells #[.int .i64 t320, .int .i64 t321] 55 (0, 0))) ∧ Aside0 (Below w.heap.size w wc))
        case first =>
          have H := HC35.out
          clear HC35
          by_cases c67 : t313 = t318
          · rw [if_pos c67] at H
            have c67b0 : (t313 == t318) = true := beq_iff_eq.mpr c67
            have c67b1 : (t313 != t318) = false := bne_eq_false_iff_eq.mpr c67
            clear c67
            (first | rw [c67b0] | (simp only [i64_w, i32_w]; rw [c67b0]) | skip)
            have H' := Aside0.mk H
            clear H
            go_wp2
            go_meet
            case rel => exact ⟨_, ((t315 != t322)), (by first | rfl | (simp; done) | (simp [*]; done)), H', ⟨by have := HJ10.out; first | omega | exact Nat.le_refl _⟩, ⟨by (with_reducible repeat (first | refine blk_drewN ?_ _ | refine blk_drew ?_ | refine blk_alloc ?_ _)); refine blk_far ?_ NB305_323.out _; (with_reducible repeat (first | refine blk_drewN ?_ _ | refine blk_drew ?_ | refine blk_alloc ?_ _)); refine blk_far ?_ NB305_323.out _; (with_reducible repeat (first | refine blk_drewN ?_ _ | refine blk_drew ?_ | refine blk_alloc ?_ _)); exact BK305.out⟩, ⟨by (with_reducible repeat (first | refine blk_drewN ?_ _ | refine blk_drew ?_ | refine blk_alloc ?_ _)); refine blk_far ?_ NB306_323.out _; (with_reducible repeat (first | refine blk_drewN ?_ _ | refine blk_drew ?_ | refine blk_alloc ?_ _)); refine blk_far ?_ NB306_323.out _; (with_reducible repeat (first | refine blk_drewN ?_ _ | refine blk_drew ?_ | refine blk_alloc ?_ _)); exact BK306.out⟩, ⟨by (with_reducible repeat (first | refine blk_drewN ?_ _ | refine blk_drew ?_ | refine blk_alloc ?_ _)); refine blk_far ?_ NB307_323.out _; (with_reducible repeat (first | refine blk_drewN ?_ _ | refine blk_drew ?_ | refine blk_alloc ?_ _)); refine blk_far ?_ NB307_323.out _; (with_reducible repeat (first | refine blk_drewN ?_ _ | refine blk_drew ?_ | refine blk_alloc ?_ _)); exact BK307.out⟩, ⟨by (with_reducible repeat (first | refine blk_drewN ?_ _ | refine blk_drew ?_ | refine blk_alloc ?_ _)); refine blk_far ?_ NB308_323.out _; (with_reducible repeat (first | refine blk_drewN ?_ _ | refine blk_drew ?_ | refine blk_alloc ?_ _)); refine blk_far ?_ NB308_323.out _; (with_reducible repeat (first | refine blk_drewN ?_ _ | refine blk_drew ?_ | refine blk_alloc ?_ _)); exact BK308.out⟩, ⟨by (with_reducible repeat (first | refine blk_drewN ?_ _ | refine blk_drew ?_ | refine blk_alloc ?_ _)); refine blk_far ?_ NB319_323.out _; (with_reducible repeat (first | refine blk_drewN ?_ _ | refine blk_drew ?_ | refine blk_alloc ?_ _)); refine blk_far ?_ NB319_323.out _; (with_reducible repeat (first | refine blk_drewN ?_ _ | refine blk_drew ?_ | refine blk_alloc ?_ _)); exact BK319.out⟩, ⟨by (with_reducible repeat (first | refine blk_drewN ?_ _ | refine blk_drew ?_ | refine blk_alloc ?_ _)); refine blk_put (cs := #[.int .i64 t320, .int .i64 0]) ?_ 1 _ rfl; (with_reducible repeat (first | refine blk_drewN ?_ _ | refine blk_drew ?_ | refine blk_alloc ?_ _)); refine blk_put (cs := #[.int .i64 0, .int .i64 0]) ?_ 0 _ rfl; (with_reducible repeat (first | refine blk_drewN ?_ _ | refine blk_drew ?_ | refine blk_alloc ?_ _)); exact BK323.out⟩, ⟨by repeat (first | (with_reducible first | exact HB.out | apply below_alloc | apply pw_below_drewN | apply below_drew1 | refine below_set ?_ GE305.out | refine below_set ?_ GE306.out | refine below_set ?_ GE307.out | refine below_set ?_ GE308.out | refine below_set ?_ GE319.out | refine below_set ?_ GE323.out) | exact HB.out)⟩⟩
          · rw [if_neg c67] at H
            have c67b0 : (t313 == t318) = false := beq_eq_false_iff_ne.mpr c67
            have c67b1 : (t313 != t318) = true := bne_iff_ne.mpr c67
            (first | rw [c67b0] | (simp only [i64_w, i32_w]; rw [c67b0]) | skip)
            have H' := Aside0.mk H
            clear H
            go_wp2
            go_meet
            case rel => exact ⟨_, (true), (by first | rfl | (simp; done) | (simp [*]; done)), H', ⟨by have := HJ10.out; first | omega | exact Nat.le_refl _⟩, ⟨by (with_reducible repeat (first | refine blk_drewN ?_ _ | refine blk_drew ?_ | refine blk_alloc ?_ _)); refine blk_far ?_ NB305_323.out _; (with_reducible repeat (first | refine blk_drewN ?_ _ | refine blk_drew ?_ | refine blk_alloc ?_ _)); refine blk_far ?_ NB305_323.out _; (with_reducible repeat (first | refine blk_drewN ?_ _ | refine blk_drew ?_ | refine blk_alloc ?_ _)); exact BK305.out⟩, ⟨by (with_reducible repeat (first | refine blk_drewN ?_ _ | refine blk_drew ?_ | refine blk_alloc ?_ _)); refine blk_far ?_ NB306_323.out _; (with_reducible repeat (first | refine blk_drewN ?_ _ | refine blk_drew ?_ | refine blk_alloc ?_ _)); refine blk_far ?_ NB306_323.out _; (with_reducible repeat (first | refine blk_drewN ?_ _ | refine blk_drew ?_ | refine blk_alloc ?_ _)); exact BK306.out⟩, ⟨by (with_reducible repeat (first | refine blk_drewN ?_ _ | refine blk_drew ?_ | refine blk_alloc ?_ _)); refine blk_far ?_ NB307_323.out _; (with_reducible repeat (first | refine blk_drewN ?_ _ | refine blk_drew ?_ | refine blk_alloc ?_ _)); refine blk_far ?_ NB307_323.out _; (with_reducible repeat (first | refine blk_drewN ?_ _ | refine blk_drew ?_ | refine blk_alloc ?_ _)); exact BK307.out⟩, ⟨by (with_reducible repeat (first | refine blk_drewN ?_ _ | refine blk_drew ?_ | refine blk_alloc ?_ _)); refine blk_far ?_ NB308_323.out _; (with_reducible repeat (first | refine blk_drewN ?_ _ | refine blk_drew ?_ | refine blk_alloc ?_ _)); refine blk_far ?_ NB308_323.out _; (with_reducible repeat (first | refine blk_drewN ?_ _ | refine blk_drew ?_ | refine blk_alloc ?_ _)); exact BK308.out⟩, ⟨by (with_reducible repeat (first | refine blk_drewN ?_ _ | refine blk_drew ?_ | refine blk_alloc ?_ _)); refine blk_far ?_ NB319_323.out _; (with_reducible repeat (first | refine blk_drewN ?_ _ | refine blk_drew ?_ | refine blk_alloc ?_ _)); refine blk_far ?_ NB319_323.out _; (with_reducible repeat (first | refine blk_drewN ?_ _ | refine blk_drew ?_ | refine blk_alloc ?_ _)); exact BK319.out⟩, ⟨by (with_reducible repeat (first | refine blk_drewN ?_ _ | refine blk_drew ?_ | refine blk_alloc ?_ _)); refine blk_put (cs := #[.int .i64 t320, .int .i64 0]) ?_ 1 _ rfl; (with_reducible repeat (first | refine blk_drewN ?_ _ | refine blk_drew ?_ | refine blk_alloc ?_ _)); refine blk_put (cs := #[.int .i64 0, .int .i64 0]) ?_ 0 _ rfl; (with_reducible repeat (first | refine blk_drewN ?_ _ | refine blk_drew ?_ | refine blk_alloc ?_ _)); exact BK323.out⟩, ⟨by repeat (first | (with_reducible first | exact HB.out | apply below_alloc | apply pw_below_drewN | apply below_drew1 | refine below_set ?_ GE305.out | refine below_set ?_ GE306.out | refine below_set ?_ GE307.out | refine below_set ?_ GE308.out | refine below_set ?_ GE319.out | refine below_set ?_ GE323.out) | exact HB.out)⟩⟩
        case rest =>
          clear HC35
          try clear c1
          try clear c2
          try clear p2
          try clear c3
          try clear c4
          try clear c5
          try clear c6
          try clear c7
          try clear c13
          try clear c17
          try clear c18
          try clear c19
          try clear c21
          try clear c22
          try clear c23
          try clear c25
          try clear c29
          try clear c30
          try clear c36
          try clear c37
          try clear c38
          try clear c40
          try clear c41
          try clear c44
          try clear c52
          try clear c53
          try clear c54
          try clear c55
          try clear c61
          try clear c62
          try clear c63
          try clear c64
          try clear c65
          try clear c67
          try clear c67b0
          try clear c67b1
          try clear hcz20_0
          try clear hcz20_1
          try clear hcz20_2
          try clear hcz20_3
          try clear hcz20_4
          try clear hcz20_5
          try clear hcz20_6
          try clear hcz23_0
          try clear hcz23_1
          try clear hcz26_0
          try clear hcz26_1
          try clear hcz26_2
          try clear hcz26_3
          try clear hcz26_4
          try clear hcz26_5
          try clear hcz26_6
          try clear hcz27_0
          try clear hcz27_1
          try clear hcz39_0
          try clear hcz39_1
          try clear hcz39_2
          try clear hcz39_3
          try clear hcz39_4
          try clear hcz39_5
          try clear hcz39_6
          try clear hcz42_0
          try clear hcz42_1
          try clear hcz45_0
          try clear hcz45_1
          try clear hcz45_2
          try clear hcz45_3
          try clear hcz45_4
          try clear hcz45_5
          try clear hcz45_6
          try clear hcz46_0
          try clear hcz46_1
          try clear hcz48_0
          try clear hcz48_1
          try clear hcz48_2
          try clear hcz48_3
          try clear hcz48_4
          try clear hcz48_5
          try clear hcz48_6
          try clear hcz49_0
          try clear hcz49_1
          try clear hcz56_0
          try clear hcz56_1
          try clear hcz57_0
          try clear hcz57_1
          try clear hcz57_2
          try clear hcz57_3
          try clear hcz57_4
          try clear hcz57_5
          try clear hcz57_6
          try clear hcz58_0
          try clear hcz58_1
          try clear hcz66_0
          try clear hcz66_1
          try clear hfz20_0
          try clear hfz20_1
          try clear hfz20_2
          try clear hfz20_3
          try clear hfz20_4
          try clear hfz20_5
          try clear hfz20_6
          try clear hfz23_0
          try clear hfz23_1
          try clear hfz26_0
          try clear hfz26_1
          try clear hfz26_2
          try clear hfz26_3
          try clear hfz26_4
          try clear hfz26_5
          try clear hfz26_6
          try clear hfz27_0
          try clear hfz27_1
          try clear hfz39_0
          try clear hfz39_1
          try clear hfz39_2
          try clear hfz39_3
          try clear hfz39_4
          try clear hfz39_5
          try clear hfz39_6
          try clear hfz42_0
          try clear hfz42_1
          try clear hfz45_0
          try clear hfz45_1
          try clear hfz45_2
          try clear hfz45_3
          try clear hfz45_4
          try clear hfz45_5
          try clear hfz45_6
          try clear hfz46_0
          try clear hfz46_1
          try clear hfz48_0
          try clear hfz48_1
          try clear hfz48_2
          try clear hfz48_3
          try clear hfz48_4
          try clear hfz48_5
          try clear hfz48_6
          try clear hfz49_0
          try clear hfz49_1
          try clear hfz56_0
          try clear hfz56_1
          try clear hfz57_0
          try clear hfz57_1
          try clear hfz57_2
          try clear hfz57_3
          try clear hfz57_4
          try clear hfz57_5
          try clear hfz57_6
          try clear hfz58_0
          try clear hfz58_1
          try clear hfz66_0
          try clear hfz66_1
          try clear p2
          obtain ⟨kq, x77_34, rfl, HA, HJ34, BK305, BK306, BK307, BK308, BK319, BK323, HB⟩ := hcut
          cases kq with
          | zero => exact absurd HA.out (by simp [slotmeshlaw10_GuardCaught.j1])
          | succ kj34 =>
            have H := HA.out
            clear HA
            simp only [slotmeshlaw10_GuardCaught.j1] at H
            by_cases c68 : x77_34 = true
            · subst c68
              have H1 : (none) = some r := by rw [if_pos rfl] at H; exact H
              clear H
              have H := H1
              clear H1
              exact absurd H (by simp)
            · replace c68 := Bool.eq_false_iff.mpr c68
              subst c68
              have H1 : (if t309 = true then (if t313 = 0 then (if t315 = 0 then ((guard_Catches.f t312 t320 t321).bind fun t324 => (if t324 = true then ((guard_Catches.f t314 t316 t317).bind fun t325 => (some t325)) else (none))) else (some true)) else (some true)) else (none)) = some r := by rw [if_neg (show ¬ (false = true) by decide)] at H; exact H
              clear H
              have H := H1
              clear H1
              by_cases c69 : t309 = true
              · subst c69
                have H1 : (if t313 = 0 then (if t315 = 0 then ((guard_Catches.f t312 t320 t321).bind fun t324 => (if t324 = true then ((guard_Catches.f t314 t316 t317).bind fun t325 => (some t325)) else (none))) else (some true)) else (some true)) = some r := by rw [if_pos rfl] at H; exact H
                clear H
                have H := H1
                clear H1
                by_cases c70 : t313 = 0
                · rw [if_pos c70] at H
                  have c70b0 : (t313 == 0) = true := beq_iff_eq.mpr c70
                  have c70b1 : (t313 != 0) = false := bne_eq_false_iff_eq.mpr c70
                  clear c70
                  by_cases c71 : t315 = 0
                  · rw [if_pos c71] at H
                    have c71b0 : (t315 == 0) = true := beq_iff_eq.mpr c71
                    have c71b1 : (t315 != 0) = false := bne_eq_false_iff_eq.mpr c71
                    clear c71
                    replace H := Option.bind_eq_some_iff.mp H
                    obtain ⟨t324, A720, H⟩ := H
                    replace H : (if t324 = true then ((guard_Catches.f t314 t316 t317).bind fun t325 => (some t325)) else (none)) = some r := H
                    have A72 := Aside0.mk A720
                    clear A720
                    by_cases c73 : t324 = true
                    · subst c73
                      have H1 : ((guard_Catches.f t314 t316 t317).bind fun t325 => (some t325)) = some r := by rw [if_pos rfl] at H; exact H
                      clear H
                      have H := H1
                      clear H1
                      replace H := Option.bind_eq_some_iff.mp H
                      obtain ⟨t325, A740, H⟩ := H
                      replace H : (some t325) = some r := H
                      have A74 := Aside0.mk A740
                      clear A740
                      obtain rfl := Option.some.inj H
                      have hnb75 := NB323_305.out
                      have hnc75 := NB305_323.out
                      have hnb76 := NB323_306.out
                      have hnc76 := NB306_323.out
                      have hnb77 := NB323_307.out
                      have hnc77 := NB307_323.out
                      have hnb78 := NB323_308.out
                      have hnc78 := NB308_323.out
                      have hnb79 := NB323_319.out
                      have hnc79 := NB319_323.out
                      have hcz80_0 : wc.cell? ⟨gb323, 0, none⟩ = some (.int .i64 t320) := (blk_cell BK323.out 0).trans rfl
                      have hcz80_1 : wc.cell? ⟨gb323, 1, none⟩ = some (.int .i64 t321) := (blk_cell BK323.out 1).trans rfl
                      have hfz80_0 := blk_frozen BK323.out 0
                      have hfz80_1 := blk_frozen BK323.out 1
                      go_wp2_with (first | (go_at_call 27; (with_reducible refine (guard_Catches.calls t312 t320 t321 true _ A72.out).mono ?_); rintro e w81 ⟨rfl, hb⟩; have n0_ := Aside0.mk (blk_below (g := gb305) (o := .cells #[.bool a0_0, .int .i64 a0_1, .int .i64 a0_2, .int .i64 a0_3, .int .i64 a0_4, .int .i64 a0_5, .int .i64 a0_6] 25 (0, 0)) (by (with_reducible repeat (first | refine blk_drewN ?_ _ | refine blk_drew ?_ | refine blk_alloc ?_ _)); exact BK305.out) hb); have n1_ := Aside0.mk (blk_below (g := gb306) (o := .cells #[.int .i64 a1_0, .int .i64 a1_1] 27 (0, 0)) (by (with_reducible repeat (first | refine blk_drewN ?_ _ | refine blk_drew ?_ | refine blk_alloc ?_ _)); exact BK306.out) hb); have n2_ := Aside0.mk (blk_below (g := gb307) (o := .cells #[.bool a3_0, .int .i64 a3_1, .int .i64 a3_2, .int .i64 a3_3, .int .i64 a3_4, .int .i64 a3_5, .int .i64 a3_6] 25 (0, 0)) (by (with_reducible repeat (first | refine blk_drewN ?_ _ | refine blk_drew ?_ | refine blk_alloc ?_ _)); exact BK307.out) hb); have n3_ := Aside0.mk (blk_below (g := gb308) (o := .cells #[.int .i64 a4_0, .int .i64 a4_1] 27 (0, 0)) (by (with_reducible repeat (first | refine blk_drewN ?_ _ | refine blk_drew ?_ | refine blk_alloc ?_ _)); exact BK308.out) hb); have n4_ := Aside0.mk (blk_below (g := gb319) (o := .cells #[.int .i64 t316, .int .i64 t317] 55 (0, 0)) (by (with_reducible repeat (first | refine blk_drewN ?_ _ | refine blk_drew ?_ | refine blk_alloc ?_ _)); exact BK319.out) hb); have n5_ := Aside0.mk (blk_below (g := gb323) (o := .cells #[.int .i64 t320, .int .i64 t321] 55 (0, 0)) (by (with_reducible repeat (first | refine blk_drewN ?_ _ | refine blk_drew ?_ | refine blk_alloc ?_ _)); exact BK323.out) hb); have n6_ := Aside0.mk (below_step (by repeat (first | (with_reducible first | exact HB.out | apply below_alloc | apply pw_below_drewN | apply below_drew1 | refine below_set ?_ GE305.out | refine below_set ?_ GE306.out | refine below_set ?_ GE307.out | refine below_set ?_ GE308.out | refine below_set ?_ GE319.out | refine below_set ?_ GE323.out) | exact HB.out)) hb); clear BK305; clear BK306; clear BK307; clear BK308; clear BK319; clear BK323; clear HB; have BK305 := n0_; have BK306 := n1_; have BK307 := n2_; have BK308 := n3_; have BK319 := n4_; have BK323 := n5_; have HB := n6_; clear n0_ n1_ n2_ n3_ n4_ n5_ n6_; (try clear hb); (try clear hb2); (try clear hk); (try clear hi); have hnb82 := NB319_305.out; have hnc82 := NB305_319.out; have hnb83 := NB319_306.out; have hnc83 := NB306_319.out; have hnb84 := NB319_307.out; have hnc84 := NB307_319.out; have hnb85 := NB319_308.out; have hnc85 := NB308_319.out; have hcz86_0 : w81.cell? ⟨gb319, 0, none⟩ = some (.int .i64 t316) := (blk_cell BK319.out 0).trans rfl; have hcz86_1 : w81.cell? ⟨gb319, 1, none⟩ = some (.int .i64 t317) := (blk_cell BK319.out 1).trans rfl; have hfz86_0 := blk_frozen BK319.out 0; have hfz86_1 := blk_frozen BK319.out 1) | (go_at_call 27; (with_reducible refine (guard_Catches.calls t314 t316 t317 t325 _ A74.out).mono ?_); rintro e w87 ⟨rfl, hb⟩; have n0_ := Aside0.mk (blk_below (g := gb305) (o := .cells #[.bool a0_0, .int .i64 a0_1, .int .i64 a0_2, .int .i64 a0_3, .int .i64 a0_4, .int .i64 a0_5, .int .i64 a0_6] 25 (0, 0)) (by (with_reducible repeat (first | refine blk_drewN ?_ _ | refine blk_drew ?_ | refine blk_alloc ?_ _)); exact BK305.out) hb); have n1_ := Aside0.mk (blk_below (g := gb306) (o := .cells #[.int .i64 a1_0, .int .i64 a1_1] 27 (0, 0)) (by (with_reducible repeat (first | refine blk_drewN ?_ _ | refine blk_drew ?_ | refine blk_alloc ?_ _)); exact BK306.out) hb); have n2_ := Aside0.mk (blk_below (g := gb307) (o := .cells #[.bool a3_0, .int .i64 a3_1, .int .i64 a3_2, .int .i64 a3_3, .int .i64 a3_4, .int .i64 a3_5, .int .i64 a3_6] 25 (0, 0)) (by (with_reducible repeat (first | refine blk_drewN ?_ _ | refine blk_drew ?_ | refine blk_alloc ?_ _)); exact BK307.out) hb); have n3_ := Aside0.mk (blk_below (g := gb308) (o := .cells #[.int .i64 a4_0, .int .i64 a4_1] 27 (0, 0)) (by (with_reducible repeat (first | refine blk_drewN ?_ _ | refine blk_drew ?_ | refine blk_alloc ?_ _)); exact BK308.out) hb); have n4_ := Aside0.mk (blk_below (g := gb319) (o := .cells #[.int .i64 t316, .int .i64 t317] 55 (0, 0)) (by (with_reducible repeat (first | refine blk_drewN ?_ _ | refine blk_drew ?_ | refine blk_alloc ?_ _)); exact BK319.out) hb); have n5_ := Aside0.mk (blk_below (g := gb323) (o := .cells #[.int .i64 t320, .int .i64 t321] 55 (0, 0)) (by (with_reducible repeat (first | refine blk_drewN ?_ _ | refine blk_drew ?_ | refine blk_alloc ?_ _)); exact BK323.out) hb); have n6_ := Aside0.mk (below_step (by repeat (first | (with_reducible first | exact HB.out | apply below_alloc | apply pw_below_drewN | apply below_drew1 | refine below_set ?_ GE305.out | refine below_set ?_ GE306.out | refine below_set ?_ GE307.out | refine below_set ?_ GE308.out | refine below_set ?_ GE319.out | refine below_set ?_ GE323.out) | exact HB.out)) hb); clear BK305; clear BK306; clear BK307; clear BK308; clear BK319; clear BK323; clear HB; have BK305 := n0_; have BK306 := n1_; have BK307 := n2_; have BK308 := n3_; have BK319 := n4_; have BK323 := n5_; have HB := n6_; clear n0_ n1_ n2_ n3_ n4_ n5_ n6_; (try clear hb); (try clear hb2); (try clear hk); (try clear hi)))
                      go_ret
                      exact ⟨by first | rfl | (simp [errW_none, errW_some] <;> rfl) | (simp [*, errW_none, errW_some] <;> rfl), by repeat (first | (with_reducible first | exact HB.out | apply below_alloc | apply pw_below_drewN | apply below_drew1 | refine below_set ?_ GE305.out | refine below_set ?_ GE306.out | refine below_set ?_ GE307.out | refine below_set ?_ GE308.out | refine below_set ?_ GE319.out | refine below_set ?_ GE323.out) | exact HB.out)⟩
                    · replace c73 := Bool.eq_false_iff.mpr c73
                      subst c73
                      have H1 : (none) = some r := by rw [if_neg (show ¬ (false = true) by decide)] at H; exact H
                      clear H
                      have H := H1
                      clear H1
                      exact absurd H (by simp)
                  · rw [if_neg c71] at H
                    have c71b0 : (t315 == 0) = false := beq_eq_false_iff_ne.mpr c71
                    have c71b1 : (t315 != 0) = true := bne_iff_ne.mpr c71
                    obtain rfl := Option.some.inj H
                    go_wp2
                    go_ret
                    exact ⟨by first | rfl | (simp [errW_none, errW_some] <;> rfl) | (simp [*, errW_none, errW_some] <;> rfl), by repeat (first | (with_reducible first | exact HB.out | apply below_alloc | apply pw_below_drewN | apply below_drew1 | refine below_set ?_ GE305.out | refine below_set ?_ GE306.out | refine below_set ?_ GE307.out | refine below_set ?_ GE308.out | refine below_set ?_ GE319.out | refine below_set ?_ GE323.out) | exact HB.out)⟩
                · rw [if_neg c70] at H
                  have c70b0 : (t313 == 0) = false := beq_eq_false_iff_ne.mpr c70
                  have c70b1 : (t313 != 0) = true := bne_iff_ne.mpr c70
                  obtain rfl := Option.some.inj H
                  go_wp2
                  go_ret
                  exact ⟨by first | rfl | (simp [errW_none, errW_some] <;> rfl) | (simp [*, errW_none, errW_some] <;> rfl), by repeat (first | (with_reducible first | exact HB.out | apply below_alloc | apply pw_below_drewN | apply below_drew1 | refine below_set ?_ GE305.out | refine below_set ?_ GE306.out | refine below_set ?_ GE307.out | refine below_set ?_ GE308.out | refine below_set ?_ GE319.out | refine below_set ?_ GE323.out) | exact HB.out)⟩
              · replace c69 := Bool.eq_false_iff.mpr c69
                subst c69
                have H1 : (none) = some r := by rw [if_neg (show ¬ (false = true) by decide)] at H; exact H
                clear H
                have H := H1
                clear H1
                exact absurd H (by simp)
end Go.Proofs.Ytdpihbhkghjclaa.P
end
