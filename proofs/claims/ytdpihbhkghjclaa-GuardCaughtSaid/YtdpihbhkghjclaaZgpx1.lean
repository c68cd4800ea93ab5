/- A claim's own texts, laid together by wip/zip.py without what the claim does not use. Conditions: none. -/
import Derived.Test.YtdpihbhkghjclaaZgpx0
import Derived.Test.YtdpihbhkghjclaaZgpx35
import Derived.Test.YtdpihbhkghjclaaZgpx40
import Derived.Test.YtdpihbhkghjclaaZgpx27
import Derived.Test.YtdpihbhkghjclaaZgpx47
section
/- The Go functions of this claim as Lean functions, and the proofs that their calls answer so: written by wip/myprint.py over the kit's printer, hand-proved contracts laid in. Conditions: none. -/
namespace Go.Proofs.Ytdpihbhkghjclaa.P
open Go.RowKit Go.Proofs.YtdpihbhkghjclaaW.PrintWords Go.Proofs.YtdpihbhkghjclaaW.PrintLast Go.Proofs.YtdpihbhkghjclaaW.PrintMore
attribute [local go_sem] max2_int min2_int max_two min_two max_three min_three max_four min_four   -- for this text's walks alone
set_option linter.unusedVariables false
set_option linter.unusedSimpArgs false
theorem eqA27 (d : Nat) (w : World) (x0 y0 : Int) (x1 y1 : Int) :
    (Op.equalIn (d + 2) 27 (.agg #[.int .i64 x0, .int .i64 x1]) (.agg #[.int .i64 y0, .int .i64 y1])).run Try.prog w = .ok (x0 == y0 && (x1 == y1)) w := by
  refine eqA_of Try.underlying27 (by kernel_rfl) ?_
  refine eqf_cons (by rfl) (by go_simp; rfl) (by go_simp; rfl) (by go_simp) ?_
  exact eqf_last (by rfl) (by go_simp; rfl) (by go_simp; rfl) (by go_simp)
end Go.Proofs.Ytdpihbhkghjclaa.P
end
section
/- The Go functions of this claim as Lean functions, and the proofs that their calls answer so: written by wip/myprint.py over the kit's printer, hand-proved contracts laid in. Conditions: none. -/
namespace Go.Proofs.Ytdpihbhkghjclaa.P
open Go.RowKit Go.Proofs.YtdpihbhkghjclaaW.PrintWords Go.Proofs.YtdpihbhkghjclaaW.PrintLast Go.Proofs.YtdpihbhkghjclaaW.PrintMore
attribute [local go_sem] max2_int min2_int max_two min_two max_three min_three max_four min_four   -- for this text's walks alone
set_option linter.unusedVariables false
set_option linter.unusedSimpArgs false
attribute [local go_sem high] eqA27
/-! ### slotmeshlaw10_isTrue: function 29 -/
def slotmeshlaw10_isTrue.j0 : Nat → Int → Bool → Bool → Int → Int → Int → Int → Int → Int → Int → Int → Option (Bool)
  | 0, _, _, _, _, _, _, _, _, _, _, _ => none
  | k + 1, x2, x31, x291000, x291001, x291002, x291003, x291004, x291005, x291006, x292000, x292001 => if x31 = true then (some false) else (if x291004 = 0 then (some (x292000 == 0 && (x292001 == 0))) else ((slotmeshref07_At.f x292000 x292001 x2).bind fun t294 => ((slotmeshref08_True.f x291001 x291002 x291003 x2 t294).bind fun t295 => (some t295))))
def slotmeshlaw10_isTrue.f (k : Nat) (a0_0 : Bool) (a0_1 : Int) (a0_2 : Int) (a0_3 : Int) (a0_4 : Int) (a0_5 : Int) (a0_6 : Int) (a1_0 : Int) (a1_1 : Int) (a2 : Int) : Option (Bool) := (slotmeshref09_Valid.f k a0_0 a0_1 a0_2 a0_3 a0_4 a0_5 a0_6).bind fun t292 => ((slotmeshref07_Valid.f a1_0 a1_1).bind fun t293 => (if t292 = true then (if t293 = true then (if a0_0 = true then (if a2 < 0 then (slotmeshlaw10_isTrue.j0 k a2 true a0_0 a0_1 a0_2 a0_3 a0_4 a0_5 a0_6 a1_0 a1_1) else (slotmeshlaw10_isTrue.j0 k a2 (decide (a2 > 10000000000000)) a0_0 a0_1 a0_2 a0_3 a0_4 a0_5 a0_6 a1_0 a1_1)) else (slotmeshlaw10_isTrue.j0 k a2 true a0_0 a0_1 a0_2 a0_3 a0_4 a0_5 a0_6 a1_0 a1_1)) else (slotmeshlaw10_isTrue.j0 k a2 true a0_0 a0_1 a0_2 a0_3 a0_4 a0_5 a0_6 a1_0 a1_1)) else (slotmeshlaw10_isTrue.j0 k a2 true a0_0 a0_1 a0_2 a0_3 a0_4 a0_5 a0_6 a1_0 a1_1)))
def slotmeshlaw10_isTrue.T7 : Bool × List (List Nat × List Nat) := (true, [([], []), ([0], [0]), ([], []), ([], []), ([], []), ([3, 4], [3, 4]), ([1, 2, 5, 5], [1, 2, 5]), ([6, 6, 0, 1, 2, 3, 4, 5, 6], [6])])
def slotmeshlaw10_isTrue.B7 : List Nat := [0, 1, 0, 0, 0, 24, 63, 127]
theorem slotmeshlaw10_isTrue.tab7 : rtab .any (opsOf Try.f29 7) = slotmeshlaw10_isTrue.T7 := by kernel_rfl
theorem slotmeshlaw10_isTrue.bits7 : waitsOk slotmeshlaw10_isTrue.T7.2 slotmeshlaw10_isTrue.B7 = true := by kernel_rfl
set_option maxHeartbeats 8000000 in
set_option maxRecDepth 100000 in
theorem slotmeshlaw10_isTrue.calls (k : Nat) (a0_0 : Bool) (a0_1 : Int) (a0_2 : Int) (a0_3 : Int) (a0_4 : Int) (a0_5 : Int) (a0_6 : Int) (a1_0 : Int) (a1_1 : Int) (a2 : Int) (r : Bool) (w : World) (h : slotmeshlaw10_isTrue.f k a0_0 a0_1 a0_2 a0_3 a0_4 a0_5 a0_6 a1_0 a1_1 a2 = some r) :
    Calls Try.prog 29 #[.agg #[.bool a0_0, .int .i64 a0_1, .int .i64 a0_2, .int .i64 a0_3, .int .i64 a0_4, .int .i64 a0_5, .int .i64 a0_6], .agg #[.int .i64 a1_0, .int .i64 a1_1], .int .i64 a2] w fun e w' => e = .returned (.bool r) ∧ Below w.heap.size w w' := by
  have hu25 := Try.underlying25
  have hu27 := Try.underlying27
  have hu23 := Try.underlying23
  have HB := Aside0.mk (Below.refl w.heap.size w)
  have H : ((slotmeshref09_Valid.f k a0_0 a0_1 a0_2 a0_3 a0_4 a0_5 a0_6).bind fun t292 => ((slotmeshref07_Valid.f a1_0 a1_1).bind fun t293 => (if t292 = true then (if t293 = true then (if a0_0 = true then (if a2 < 0 then (slotmeshlaw10_isTrue.j0 k a2 true a0_0 a0_1 a0_2 a0_3 a0_4 a0_5 a0_6 a1_0 a1_1) else (slotmeshlaw10_isTrue.j0 k a2 (decide (a2 > 10000000000000)) a0_0 a0_1 a0_2 a0_3 a0_4 a0_5 a0_6 a1_0 a1_1)) else (slotmeshlaw10_isTrue.j0 k a2 true a0_0 a0_1 a0_2 a0_3 a0_4 a0_5 a0_6 a1_0 a1_1)) else (slotmeshlaw10_isTrue.j0 k a2 true a0_0 a0_1 a0_2 a0_3 a0_4 a0_5 a0_6 a1_0 a1_1)) else (slotmeshlaw10_isTrue.j0 k a2 true a0_0 a0_1 a0_2 a0_3 a0_4 a0_5 a0_6 a1_0 a1_1)))) = some r := h
  clear h
  replace H := Option.bind_eq_some_iff.mp H
  obtain ⟨t292, A40, H⟩ := H
  replace H : ((slotmeshref07_Valid.f a1_0 a1_1).bind fun t293 => (if t292 = true then (if t293 = true then (if a0_0 = true then (if a2 < 0 then (slotmeshlaw10_isTrue.j0 k a2 true a0_0 a0_1 a0_2 a0_3 a0_4 a0_5 a0_6 a1_0 a1_1) else (slotmeshlaw10_isTrue.j0 k a2 (decide (a2 > 10000000000000)) a0_0 a0_1 a0_2 a0_3 a0_4 a0_5 a0_6 a1_0 a1_1)) else (slotmeshlaw10_isTrue.j0 k a2 true a0_0 a0_1 a0_2 a0_3 a0_4 a0_5 a0_6 a1_0 a1_1)) else (slotmeshlaw10_isTrue.j0 k a2 true a0_0 a0_1 a0_2 a0_3 a0_4 a0_5 a0_6 a1_0 a1_1)) else (slotmeshlaw10_isTrue.j0 k a2 true a0_0 a0_1 a0_2 a0_3 a0_4 a0_5 a0_6 a1_0 a1_1))) = some r := H
  have A4 := Aside0.mk A40
  clear A40
  replace H := Option.bind_eq_some_iff.mp H
  obtain ⟨t293, A50, H⟩ := H
  replace H : (if t292 = true then (if t293 = true then (if a0_0 = true then (if a2 < 0 then (slotmeshlaw10_isTrue.j0 k a2 true a0_0 a0_1 a0_2 a0_3 a0_4 a0_5 a0_6 a1_0 a1_1) else (slotmeshlaw10_isTrue.j0 k a2 (decide (a2 > 10000000000000)) a0_0 a0_1 a0_2 a0_3 a0_4 a0_5 a0_6 a1_0 a1_1)) else (slotmeshlaw10_isTrue.j0 k a2 true a0_0 a0_1 a0_2 a0_3 a0_4 a0_5 a0_6 a1_0 a1_1)) else (slotmeshlaw10_isTrue.j0 k a2 true a0_0 a0_1 a0_2 a0_3 a0_4 a0_5 a0_6 a1_0 a1_1)) else (slotmeshlaw10_isTrue.j0 k a2 true a0_0 a0_1 a0_2 a0_3 a0_4 a0_5 a0_6 a1_0 a1_1)) = some r := H
  have A5 := Aside0.mk A50
  clear A50
  have HC6 := Aside0.mk H
  clear H
  go_enter Try.func29, Try.ntmps29
  go_upto_region 3 with (first | ((with_reducible refine gate_dst (N := 3) rfl ?_); refine box_event ?hg (N := 3) ?hd (cs := #[.bool a0_0, .int .i64 a0_1, .int .i64 a0_2, .int .i64 a0_3, .int .i64 a0_4, .int .i64 a0_5, .int .i64 a0_6]) (t := 25) ?hr ?_; (case hd => rfl); (case hg => rfl); (case hr => first | (go_simp; done) | (go_simp; rfl)); intro gb290 hg w7 hbox hb; have n0_ := Aside0.mk (below_step (by repeat (first | (with_reducible first | exact HB.out | apply below_alloc | apply pw_below_drewN | apply below_drew1) | exact HB.out)) hb); have n1_ := Aside0.mk (hbox); have n2_ := Aside0.mk ((by rw [hg]; exact (below_size (by repeat (first | (with_reducible first | exact HB.out | apply below_alloc | apply pw_below_drewN | apply below_drew1) | exact HB.out))) : w.heap.size ≤ gb290)); have n3_ := Aside0.mk ((by rw [hg]; exact (below_size (by repeat (first | (with_reducible first | exact HB.out | apply below_alloc | apply pw_below_drewN | apply below_drew1) | exact HB.out))) : w.heap.size ≤ gb290)); clear HB; have HB := n0_; have BK290 := n1_; have GW290 := n2_; have GE290 := n3_; clear n0_ n1_ n2_ n3_; clear hb hbox hg) | ((with_reducible refine gate_dst (N := 4) rfl ?_); refine box_event ?hg (N := 4) ?hd (cs := #[.int .i64 a1_0, .int .i64 a1_1]) (t := 27) ?hr ?_; (case hd => rfl); (case hg => rfl); (case hr => first | (go_simp; done) | (go_simp; rfl)); intro gb291 hg w8 hbox hb; have n0_ := Aside0.mk (blk_below (g := gb290) (o := .cells #[.bool a0_0, .int .i64 a0_1, .int .i64 a0_2, .int .i64 a0_3, .int .i64 a0_4, .int .i64 a0_5, .int .i64 a0_6] 25 (0, 0)) (by (with_reducible repeat (first | refine blk_drewN ?_ _ | refine blk_drew ?_ | refine blk_alloc ?_ _)); exact BK290.out) hb); have n1_ := Aside0.mk (below_step (by repeat (first | (with_reducible first | exact HB.out | apply below_alloc | apply pw_below_drewN | apply below_drew1 | refine below_set ?_ GE290.out) | exact HB.out)) hb); have n2_ := Aside0.mk (hbox); have n3_ := Aside0.mk ((by rw [hg]; exact (below_size (by repeat (first | (with_reducible first | exact HB.out | apply below_alloc | apply pw_below_drewN | apply below_drew1 | refine below_set ?_ GE290.out) | exact HB.out))) : w.heap.size ≤ gb291)); have n4_ := Aside0.mk ((by rw [hg]; exact (below_size (by repeat (first | (with_reducible first | exact HB.out | apply below_alloc | apply pw_below_drewN | apply below_drew1 | refine below_set ?_ GE290.out) | exact HB.out))) : w.heap.size ≤ gb291)); have n5_ := Aside0.mk ((by rw [hg]; exact Nat.ne_of_lt (blk_lt (g := gb290) (o := .cells #[.bool a0_0, .int .i64 a0_1, .int .i64 a0_2, .int .i64 a0_3, .int .i64 a0_4, .int .i64 a0_5, .int .i64 a0_6] 25 (0, 0)) (by (with_reducible repeat (first | refine blk_drewN ?_ _ | refine blk_drew ?_ | refine blk_alloc ?_ _)); exact BK290.out)) : gb290 ≠ gb291)); have n6_ := Aside0.mk ((by rw [hg]; exact Nat.ne_of_gt (blk_lt (g := gb290) (o := .cells #[.bool a0_0, .int .i64 a0_1, .int .i64 a0_2, .int .i64 a0_3, .int .i64 a0_4, .int .i64 a0_5, .int .i64 a0_6] 25 (0, 0)) (by (with_reducible repeat (first | refine blk_drewN ?_ _ | refine blk_drew ?_ | refine blk_alloc ?_ _)); exact BK290.out)) : gb291 ≠ gb290)); clear BK290; clear HB; have BK290 := n0_; have HB := n1_; have BK291 := n2_; have GW291 := n3_; have GE291 := n4_; have NB290_291 := n5_; have NB291_290 := n6_; clear n0_ n1_ n2_ n3_ n4_ n5_ n6_; clear hb hbox hg; have hnb9 := NB290_291.out; have hnc9 := NB291_290.out; have hcz10_0 : w8.cell? ⟨gb290, 0, none⟩ = some (.bool a0_0) := (blk_cell BK290.out 0).trans rfl; have hcz10_1 : w8.cell? ⟨gb290, 1, none⟩ = some (.int .i64 a0_1) := (blk_cell BK290.out 1).trans rfl; have hcz10_2 : w8.cell? ⟨gb290, 2, none⟩ = some (.int .i64 a0_2) := (blk_cell BK290.out 2).trans rfl; have hcz10_3 : w8.cell? ⟨gb290, 3, none⟩ = some (.int .i64 a0_3) := (blk_cell BK290.out 3).trans rfl; have hcz10_4 : w8.cell? ⟨gb290, 4, none⟩ = some (.int .i64 a0_4) := (blk_cell BK290.out 4).trans rfl; have hcz10_5 : w8.cell? ⟨gb290, 5, none⟩ = some (.int .i64 a0_5) := (blk_cell BK290.out 5).trans rfl; have hcz10_6 : w8.cell? ⟨gb290, 6, none⟩ = some (.int .i64 a0_6) := (blk_cell BK290.out 6).trans rfl; have hfz10_0 := blk_frozen BK290.out 0; have hfz10_1 := blk_frozen BK290.out 1; have hfz10_2 := blk_frozen BK290.out 2; have hfz10_3 := blk_frozen BK290.out 3; have hfz10_4 := blk_frozen BK290.out 4; have hfz10_5 := blk_frozen BK290.out 5; have hfz10_6 := blk_frozen BK290.out 6) | ((with_reducible refine gate_callee (f := 44) rfl ?_); refine goesL_ (some 10) rfl rfl Try.func44 (by kernel_rfl) rfl #[.agg #[.bool a0_0, .int .i64 a0_1, .int .i64 a0_2, .int .i64 a0_3, .int .i64 a0_4, .int .i64 a0_5, .int .i64 a0_6]] rfl (by (try simp only [List.map_toArray, List.map_cons, List.map_nil]); first | done | rfl | (simp only [List.length_drop, List.length_take]; rfl)) ?_; (with_reducible refine (slotmeshref09_Valid.calls k a0_0 a0_1 a0_2 a0_3 a0_4 a0_5 a0_6 t292 _ A4.out).mono ?_); rintro e w11 ⟨rfl, hb⟩; refine ⟨_, rfl, ?_⟩; have n0_ := Aside0.mk (blk_below (g := gb290) (o := .cells #[.bool a0_0, .int .i64 a0_1, .int .i64 a0_2, .int .i64 a0_3, .int .i64 a0_4, .int .i64 a0_5, .int .i64 a0_6] 25 (0, 0)) (by (with_reducible repeat (first | refine blk_drewN ?_ _ | refine blk_drew ?_ | refine blk_alloc ?_ _)); exact BK290.out) hb); have n1_ := Aside0.mk (blk_below (g := gb291) (o := .cells #[.int .i64 a1_0, .int .i64 a1_1] 27 (0, 0)) (by (with_reducible repeat (first | refine blk_drewN ?_ _ | refine blk_drew ?_ | refine blk_alloc ?_ _)); exact BK291.out) hb); have n2_ := Aside0.mk (below_step (by repeat (first | (with_reducible first | exact HB.out | apply below_alloc | apply pw_below_drewN | apply below_drew1 | refine below_set ?_ GE290.out | refine below_set ?_ GE291.out) | exact HB.out)) hb); clear BK290; clear BK291; clear HB; have BK290 := n0_; have BK291 := n1_; have HB := n2_; clear n0_ n1_ n2_; (try clear hb); (try clear hb2); (try clear hk); (try clear hi); have hcz12_0 : w11.cell? ⟨gb291, 0, none⟩ = some (.int .i64 a1_0) := (blk_cell BK291.out 0).trans rfl; have hcz12_1 : w11.cell? ⟨gb291, 1, none⟩ = some (.int .i64 a1_1) := (blk_cell BK291.out 1).trans rfl; have hfz12_0 := blk_frozen BK291.out 0; have hfz12_1 := blk_frozen BK291.out 1) | ((with_reducible refine gate_callee (f := 15) rfl ?_); refine goesL_ (some 12) rfl rfl Try.func15 (by kernel_rfl) rfl #[.agg #[.int .i64 a1_0, .int .i64 a1_1]] rfl (by (try simp only [List.map_toArray, List.map_cons, List.map_nil]); first | done | rfl | (simp only [List.length_drop, List.length_take]; rfl)) ?_; (with_reducible refine (slotmeshref07_Valid.calls a1_0 a1_1 t293 _ A5.out).mono ?_); rintro e w13 ⟨rfl, hb⟩; refine ⟨_, rfl, ?_⟩; have n0_ := Aside0.mk (blk_below (g := gb290) (o := .cells #[.bool a0_0, .int .i64 a0_1, .int .i64 a0_2, .int .i64 a0_3, .int .i64 a0_4, .int .i64 a0_5, .int .i64 a0_6] 25 (0, 0)) (by (with_reducible repeat (first | refine blk_drewN ?_ _ | refine blk_drew ?_ | refine blk_alloc ?_ _)); exact BK290.out) hb); have n1_ := Aside0.mk (blk_below (g := gb291) (o := .cells #[.int .i64 a1_0, .int .i64 a1_1] 27 (0, 0)) (by (with_reducible repeat (first | refine blk_drewN ?_ _ | refine blk_drew ?_ | refine blk_alloc ?_ _)); exact BK291.out) hb); have n2_ := Aside0.mk (below_step (by repeat (first | (with_reducible first | exact HB.out | apply below_alloc | apply pw_below_drewN | apply below_drew1 | refine below_set ?_ GE290.out | refine below_set ?_ GE291.out) | exact HB.out)) hb); clear BK290; clear BK291; clear HB; have BK290 := n0_; have BK291 := n1_; have HB := n2_; clear n0_ n1_ n2_; (try clear hb); (try clear hb2); (try clear hk); (try clear hi)))
  (try simp only [Act.put, List.setIfInBounds_toArray, List.set_cons_zero, List.set_cons_succ])
  go_cut [31] (fun v31 wc => ∃ (kq : Nat) (x31_5 : Bool), v31 = .bool x31_5 ∧ Aside0 (slotmeshlaw10_isTrue.j0 kq a2 x31_5 a0_0 a0_1 a0_2 a0_3 a0_4 a0_5 a0_6 a1_0 a1_1 = some r) ∧ Aside0 (kq ≤ k) ∧ Aside0 (wc.heap[gb290]? = some (.cells #[.bool a0_0, .int .i64 a0_1, .int .i64 a0_2, .int .i64 a0_3, .int .i64 a0_4, .int .i64 a0_5, .int .i64 a0_6] 25 (0, 0))) ∧ Aside0 (wc.heap[gb291]? = some (.cells #[.int .i64 a1_0, .int .i64 a1_1] 27 (0, 0))) ∧ Aside0 (Below w.heap.size w wc))
  case first =>
    have H := HC6.out
    clear HC6
    by_cases c14 : t292 = true
    · subst c14
      have H1 : (if t293 = true then (if a0_0 = true then (if a2 < 0 then (slotmeshlaw10_isTrue.j0 k a2 true a0_0 a0_1 a0_2 a0_3 a0_4 a0_5 a0_6 a1_0 a1_1) else (slotmeshlaw10_isTrue.j0 k a2 (decide (a2 > 10000000000000)) a0_0 a0_1 a0_2 a0_3 a0_4 a0_5 a0_6 a1_0 a1_1)) else (slotmeshlaw10_isTrue.j0 k a2 true a0_0 a0_1 a0_2 a0_3 a0_4 a0_5 a0_6 a1_0 a1_1)) else (slotmeshlaw10_isTrue.j0 k a2 true a0_0 a0_1 a0_2 a0_3 a0_4 a0_5 a0_6 a1_0 a1_1)) = some r := by rw [if_pos rfl] at H; exact H
      clear H
      have H := H1
      clear H1
      by_cases c15 : t293 = true
      · subst c15
        have H1 : (if a0_0 = true then (if a2 < 0 then (slotmeshlaw10_isTrue.j0 k a2 true a0_0 a0_1 a0_2 a0_3 a0_4 a0_5 a0_6 a1_0 a1_1) else (slotmeshlaw10_isTrue.j0 k a2 (decide (a2 > 10000000000000)) a0_0 a0_1 a0_2 a0_3 a0_4 a0_5 a0_6 a1_0 a1_1)) else (slotmeshlaw10_isTrue.j0 k a2 true a0_0 a0_1 a0_2 a0_3 a0_4 a0_5 a0_6 a1_0 a1_1)) = some r := by rw [if_pos rfl] at H; exact H
        clear H
        have H := H1
        clear H1
        by_cases c16 : a0_0 = true
        · subst c16
          have H1 : (if a2 < 0 then (slotmeshlaw10_isTrue.j0 k a2 true true a0_1 a0_2 a0_3 a0_4 a0_5 a0_6 a1_0 a1_1) else (slotmeshlaw10_isTrue.j0 k a2 (decide (a2 > 10000000000000)) true a0_1 a0_2 a0_3 a0_4 a0_5 a0_6 a1_0 a1_1)) = some r := by rw [if_pos rfl] at H; exact H
          clear H
          have H := H1
          clear H1
          by_cases c17 : a2 < 0
          · rw [if_pos c17] at H
            have c17b0 : decide (a2 < 0) = true := decide_eq_true c17
            clear c17
            (first | rw [c17b0] | (simp only [i64_w, i32_w]; rw [c17b0]) | skip)
            have H' := Aside0.mk H
            clear H
            have hnb18 := NB290_291.out
            have hnc18 := NB291_290.out
            have hcz19_0 : w13.cell? ⟨gb290, 0, none⟩ = some (.bool true) := (blk_cell BK290.out 0).trans rfl
            have hcz19_1 : w13.cell? ⟨gb290, 1, none⟩ = some (.int .i64 a0_1) := (blk_cell BK290.out 1).trans rfl
            have hcz19_2 : w13.cell? ⟨gb290, 2, none⟩ = some (.int .i64 a0_2) := (blk_cell BK290.out 2).trans rfl
            have hcz19_3 : w13.cell? ⟨gb290, 3, none⟩ = some (.int .i64 a0_3) := (blk_cell BK290.out 3).trans rfl
            have hcz19_4 : w13.cell? ⟨gb290, 4, none⟩ = some (.int .i64 a0_4) := (blk_cell BK290.out 4).trans rfl
            have hcz19_5 : w13.cell? ⟨gb290, 5, none⟩ = some (.int .i64 a0_5) := (blk_cell BK290.out 5).trans rfl
            have hcz19_6 : w13.cell? ⟨gb290, 6, none⟩ = some (.int .i64 a0_6) := (blk_cell BK290.out 6).trans rfl
            have hfz19_0 := blk_frozen BK290.out 0
            have hfz19_1 := blk_frozen BK290.out 1
            have hfz19_2 := blk_frozen BK290.out 2
            have hfz19_3 := blk_frozen BK290.out 3
            have hfz19_4 := blk_frozen BK290.out 4
            have hfz19_5 := blk_frozen BK290.out 5
            have hfz19_6 := blk_frozen BK290.out 6
            go_wp2
            go_meet
            case rel => exact ⟨_, (true), (by first | rfl | (simp; done) | (simp [*]; done)), H', ⟨by first | omega | exact Nat.le_refl _⟩, ⟨by (with_reducible repeat (first | refine blk_drewN ?_ _ | refine blk_drew ?_ | refine blk_alloc ?_ _)); exact BK290.out⟩, ⟨by (with_reducible repeat (first | refine blk_drewN ?_ _ | refine blk_drew ?_ | refine blk_alloc ?_ _)); exact BK291.out⟩, ⟨by repeat (first | (with_reducible first | exact HB.out | apply below_alloc | apply pw_below_drewN | apply below_drew1 | refine below_set ?_ GE290.out | refine below_set ?_ GE291.out) | exact HB.out)⟩⟩
          · rw [if_neg c17] at H
            have c17b0 : decide (a2 < 0) = false := decide_eq_false c17
            clear c17
            (first | rw [c17b0] | (simp only [i64_w, i32_w]; rw [c17b0]) | skip)
            have H' := Aside0.mk H
            clear H
            have hnb20 := NB290_291.out
            have hnc20 := NB291_290.out
            have hcz21_0 : w13.cell? ⟨gb290, 0, none⟩ = some (.bool true) := (blk_cell BK290.out 0).trans rfl
            have hcz21_1 : w13.cell? ⟨gb290, 1, none⟩ = some (.int .i64 a0_1) := (blk_cell BK290.out 1).trans rfl
            have hcz21_2 : w13.cell? ⟨gb290, 2, none⟩ = some (.int .i64 a0_2) := (blk_cell BK290.out 2).trans rfl
            have hcz21_3 : w13.cell? ⟨gb290, 3, none⟩ = some (.int .i64 a0_3) := (blk_cell BK290.out 3).trans rfl
            have hcz21_4 : w13.cell? ⟨gb290, 4, none⟩ = some (.int .i64 a0_4) := (blk_cell BK290.out 4).trans rfl
            have hcz21_5 : w13.cell? ⟨gb290, 5, none⟩ = some (.int .i64 a0_5) := (blk_cell BK290.out 5).trans rfl
            have hcz21_6 : w13.cell? ⟨gb290, 6, none⟩ = some (.int .i64 a0_6) := (blk_cell BK290.out 6).trans rfl
            have hfz21_0 := blk_frozen BK290.out 0
            have hfz21_1 := blk_frozen BK290.out 1
            have hfz21_2 := blk_frozen BK290.out 2
            have hfz21_3 := blk_frozen BK290.out 3
            have hfz21_4 := blk_frozen BK290.out 4
            have hfz21_5 := blk_frozen BK290.out 5
            have hfz21_6 := blk_frozen BK290.out 6
            go_wp2
            go_meet
            case rel => exact ⟨_, (decide (a2 > 10000000000000)), (by first | rfl | (simp; done) | (simp [*]; done)), H', ⟨by first | omega | exact Nat.le_refl _⟩, ⟨by (with_reducible repeat (first | refine blk_drewN ?_ _ | refine blk_drew ?_ | refine blk_alloc ?_ _)); exact BK290.out⟩, ⟨by (with_reducible repeat (first | refine blk_drewN ?_ _ | refine blk_drew ?_ | refine blk_alloc ?_ _)); exact BK291.out⟩, ⟨by repeat (first | (with_reducible first | exact HB.out | apply below_alloc | apply pw_below_drewN | apply below_drew1 | refine below_set ?_ GE290.out | refine below_set ?_ GE291.out) | exact HB.out)⟩⟩
        · replace c16 := Bool.eq_false_iff.mpr c16
          subst c16
          have H1 : (slotmeshlaw10_isTrue.j0 k a2 true false a0_1 a0_2 a0_3 a0_4 a0_5 a0_6 a1_0 a1_1) = some r := by rw [if_neg (show ¬ (false = true) by decide)] at H; exact H
          clear H
          have H := H1
          clear H1
          have H' := Aside0.mk H
          clear H
          have hnb22 := NB290_291.out
          have hnc22 := NB291_290.out
          have hcz23_0 : w13.cell? ⟨gb290, 0, none⟩ = some (.bool false) := (blk_cell BK290.out 0).trans rfl
          have hcz23_1 : w13.cell? ⟨gb290, 1, none⟩ = some (.int .i64 a0_1) := (blk_cell BK290.out 1).trans rfl
          have hcz23_2 : w13.cell? ⟨gb290, 2, none⟩ = some (.int .i64 a0_2) := (blk_cell BK290.out 2).trans rfl
          have hcz23_3 : w13.cell? ⟨gb290, 3, none⟩ = some (.int .i64 a0_3) := (blk_cell BK290.out 3).trans rfl
          have hcz23_4 : w13.cell? ⟨gb290, 4, none⟩ = some (.int .i64 a0_4) := (blk_cell BK290.out 4).trans rfl
          have hcz23_5 : w13.cell? ⟨gb290, 5, none⟩ = some (.int .i64 a0_5) := (blk_cell BK290.out 5).trans rfl
          have hcz23_6 : w13.cell? ⟨gb290, 6, none⟩ = some (.int .i64 a0_6) := (blk_cell BK290.out 6).trans rfl
          have hfz23_0 := blk_frozen BK290.out 0
          have hfz23_1 := blk_frozen BK290.out 1
          have hfz23_2 := blk_frozen BK290.out 2
          have hfz23_3 := blk_frozen BK290.out 3
          have hfz23_4 := blk_frozen BK290.out 4
          have hfz23_5 := blk_frozen BK290.out 5
          have hfz23_6 := blk_frozen BK290.out 6
          go_wp2
          go_meet
          case rel => exact ⟨_, (true), (by first | rfl | (simp; done) | (simp [*]; done)), H', ⟨by first | omega | exact Nat.le_refl _⟩, ⟨by (with_reducible repeat (first | refine blk_drewN ?_ _ | refine blk_drew ?_ | refine blk_alloc ?_ _)); exact BK290.out⟩, ⟨by (with_reducible repeat (first | refine blk_drewN ?_ _ | refine blk_drew ?_ | refine blk_alloc ?_ _)); exact BK291.out⟩, ⟨by repeat (first | (with_reducible first | exact HB.out | apply below_alloc | apply pw_below_drewN | apply below_drew1 | refine below_set ?_ GE290.out | refine below_set ?_ GE291.out) | exact HB.out)⟩⟩
      · replace c15 := Bool.eq_false_iff.mpr c15
        subst c15
        have H1 : (slotmeshlaw10_isTrue.j0 k a2 true a0_0 a0_1 a0_2 a0_3 a0_4 a0_5 a0_6 a1_0 a1_1) = some r := by rw [if_neg (show ¬ (false = true) by decide)] at H; exact H
        clear H
        have H := H1
        clear H1
        have H' := Aside0.mk H
        clear H
        go_wp2
        go_meet
        case rel => exact ⟨_, (true), (by first | rfl | (simp; done) | (simp [*]; done)), H', ⟨by first | omega | exact Nat.le_refl _⟩, ⟨by (with_reducible repeat (first | refine blk_drewN ?_ _ | refine blk_drew ?_ | refine blk_alloc ?_ _)); exact BK290.out⟩, ⟨by (with_reducible repeat (first | refine blk_drewN ?_ _ | refine blk_drew ?_ | refine blk_alloc ?_ _)); exact BK291.out⟩, ⟨by repeat (first | (with_reducible first | exact HB.out | apply below_alloc | apply pw_below_drewN | apply below_drew1 | refine below_set ?_ GE290.out | refine below_set ?_ GE291.out) | exact HB.out)⟩⟩
    · replace c14 := Bool.eq_false_iff.mpr c14
      subst c14
      have H1 : (slotmeshlaw10_isTrue.j0 k a2 true a0_0 a0_1 a0_2 a0_3 a0_4 a0_5 a0_6 a1_0 a1_1) = some r := by rw [if_neg (show ¬ (false = true) by decide)] at H; exact H
      clear H
      have H := H1
      clear H1
      have H' := Aside0.mk H
      clear H
      go_wp2
      go_meet
      case rel => exact ⟨_, (true), (by first | rfl | (simp; done) | (simp [*]; done)), H', ⟨by first | omega | exact Nat.le_refl _⟩, ⟨by (with_reducible repeat (first | refine blk_drewN ?_ _ | refine blk_drew ?_ | refine blk_alloc ?_ _)); exact BK290.out⟩, ⟨by (with_reducible repeat (first | refine blk_drewN ?_ _ | refine blk_drew ?_ | refine blk_alloc ?_ _)); exact BK291.out⟩, ⟨by repeat (first | (with_reducible first | exact HB.out | apply below_alloc | apply pw_below_drewN | apply below_drew1 | refine below_set ?_ GE290.out | refine below_set ?_ GE291.out) | exact HB.out)⟩⟩
  case rest =>
    clear HC6
    try clear c1
    try clear c2
    try clear p2
    try clear c4
    try clear c9
    try clear c14
    try clear c15
    try clear c16
    try clear c17
    try clear c17b0
    try clear c18
    try clear c20
    try clear c22
    try clear hcz10_0
    try clear hcz10_1
    try clear hcz10_2
    try clear hcz10_3
    try clear hcz10_4
    try clear hcz10_5
    try clear hcz10_6
    try clear hcz12_0
    try clear hcz12_1
    try clear hcz19_0
    try clear hcz19_1
    try clear hcz19_2
    try clear hcz19_3
    try clear hcz19_4
    try clear hcz19_5
    try clear hcz19_6
    try clear hcz21_0
    try clear hcz21_1
    try clear hcz21_2
    try clear hcz21_3
    try clear hcz21_4
    try clear hcz21_5
    try clear hcz21_6
    try clear hcz23_0
    try clear hcz23_1
    try clear hcz23_2
    try clear hcz23_3
    try clear hcz23_4
    try clear hcz23_5
    try clear hcz23_6
    try clear hfz10_0
    try clear hfz10_1
    try clear hfz10_2
    try clear hfz10_3
    try clear hfz10_4
    try clear hfz10_5
    try clear hfz10_6
    try clear hfz12_0
    try clear hfz12_1
    try clear hfz19_0
    try clear hfz19_1
    try clear hfz19_2
    try clear hfz19_3
    try clear hfz19_4
    try clear hfz19_5
    try clear hfz19_6
    try clear hfz21_0
    try clear hfz21_1
    try clear hfz21_2
    try clear hfz21_3
    try clear hfz21_4
    try clear hfz21_5
    try clear hfz21_6
    try clear hfz23_0
    try clear hfz23_1
    try clear hfz23_2
    try clear hfz23_3
    try clear hfz23_4
    try clear hfz23_5
    try clear hfz23_6
    obtain ⟨kq, x31_5, rfl, HA, HJ5, BK290, BK291, HB⟩ := hcut
    cases kq with
    | zero => exact absurd HA.out (by simp [slotmeshlaw10_isTrue.j0])
    | succ kj5 =>
      have H := HA.out
      clear HA
      simp only [slotmeshlaw10_isTrue.j0] at H
      by_cases c24 : x31_5 = true
      · subst c24
        have H1 : (some false) = some r := by rw [if_pos rfl] at H; exact H
        clear H
        have H := H1
        clear H1
        obtain rfl := Option.some.inj H
        go_wp2
        go_ret
        exact ⟨by first | rfl | (simp [errW_none, errW_some] <;> rfl) | (simp [*, errW_none, errW_some] <;> rfl), by repeat (first | (with_reducible first | exact HB.out | apply below_alloc | apply pw_below_drewN | apply below_drew1 | refine below_set ?_ GE290.out | refine below_set ?_ GE291.out) | exact HB.out)⟩
      · replace c24 := Bool.eq_false_iff.mpr c24
        subst c24
        have H1 : (if a0_4 = 0 then (some (a1_0 == 0 && (a1_1 == 0))) else ((slotmeshref07_At.f a1_0 a1_1 a2).bind fun t294 => ((slotmeshref08_True.f a0_1 a0_2 a0_3 a2 t294).bind fun t295 => (some t295)))) = some r := by rw [if_neg (show ¬ (false = true) by decide)] at H; exact H
        clear H
        have H := H1
        clear H1
        by_cases c25 : a0_4 = 0
        · rw [if_pos c25] at H
          have c25b0 : (a0_4 == 0) = true := beq_iff_eq.mpr c25
          have c25b1 : (a0_4 != 0) = false := bne_eq_false_iff_eq.mpr c25
          clear c25
          obtain rfl := Option.some.inj H
          have hnb26 := NB290_291.out
          have hnc26 := NB291_290.out
          have hcz27_0 : wc.cell? ⟨gb290, 0, none⟩ = some (.bool a0_0) := (blk_cell BK290.out 0).trans rfl
          have hcz27_1 : wc.cell? ⟨gb290, 1, none⟩ = some (.int .i64 a0_1) := (blk_cell BK290.out 1).trans rfl
          have hcz27_2 : wc.cell? ⟨gb290, 2, none⟩ = some (.int .i64 a0_2) := (blk_cell BK290.out 2).trans rfl
          have hcz27_3 : wc.cell? ⟨gb290, 3, none⟩ = some (.int .i64 a0_3) := (blk_cell BK290.out 3).trans rfl
          have hcz27_4 : wc.cell? ⟨gb290, 4, none⟩ = some (.int .i64 a0_4) := (blk_cell BK290.out 4).trans rfl
          have hcz27_5 : wc.cell? ⟨gb290, 5, none⟩ = some (.int .i64 a0_5) := (blk_cell BK290.out 5).trans rfl
          have hcz27_6 : wc.cell? ⟨gb290, 6, none⟩ = some (.int .i64 a0_6) := (blk_cell BK290.out 6).trans rfl
          have hfz27_0 := blk_frozen BK290.out 0
          have hfz27_1 := blk_frozen BK290.out 1
          have hfz27_2 := blk_frozen BK290.out 2
          have hfz27_3 := blk_frozen BK290.out 3
          have hfz27_4 := blk_frozen BK290.out 4
          have hfz27_5 := blk_frozen BK290.out 5
          have hfz27_6 := blk_frozen BK290.out 6
          have hcz28_0 : wc.cell? ⟨gb291, 0, none⟩ = some (.int .i64 a1_0) := (blk_cell BK291.out 0).trans rfl
          have hcz28_1 : wc.cell? ⟨gb291, 1, none⟩ = some (.int .i64 a1_1) := (blk_cell BK291.out 1).trans rfl
          have hfz28_0 := blk_frozen BK291.out 0
          have hfz28_1 := blk_frozen BK291.out 1
          go_wp2
          go_ret
          exact ⟨by first | rfl | (simp [errW_none, errW_some] <;> rfl) | (simp [*, errW_none, errW_some] <;> rfl), by repeat (first | (with_reducible first | exact HB.out | apply below_alloc | apply pw_below_drewN | apply below_drew1 | refine below_set ?_ GE290.out | refine below_set ?_ GE291.out) | exact HB.out)⟩
        · rw [if_neg c25] at H
          have c25b0 : (a0_4 == 0) = false := beq_eq_false_iff_ne.mpr c25
          have c25b1 : (a0_4 != 0) = true := bne_iff_ne.mpr c25
          replace H := Option.bind_eq_some_iff.mp H
          obtain ⟨t294, A290, H⟩ := H
          replace H : ((slotmeshref08_True.f a0_1 a0_2 a0_3 a2 t294).bind fun t295 => (some t295)) = some r := H
          have A29 := Aside0.mk A290
          clear A290
          replace H := Option.bind_eq_some_iff.mp H
          obtain ⟨t295, A300, H⟩ := H
          replace H : (some t295) = some r := H
          have A30 := Aside0.mk A300
          clear A300
          obtain rfl := Option.some.inj H
          have hnb31 := NB290_291.out
          have hnc31 := NB291_290.out
          have hcz32_0 : wc.cell? ⟨gb290, 0, none⟩ = some (.bool a0_0) := (blk_cell BK290.out 0).trans rfl
          have hcz32_1 : wc.cell? ⟨gb290, 1, none⟩ = some (.int .i64 a0_1) := (blk_cell BK290.out 1).trans rfl
          have hcz32_2 : wc.cell? ⟨gb290, 2, none⟩ = some (.int .i64 a0_2) := (blk_cell BK290.out 2).trans rfl
          have hcz32_3 : wc.cell? ⟨gb290, 3, none⟩ = some (.int .i64 a0_3) := (blk_cell BK290.out 3).trans rfl
          have hcz32_4 : wc.cell? ⟨gb290, 4, none⟩ = some (.int .i64 a0_4) := (blk_cell BK290.out 4).trans rfl
          have hcz32_5 : wc.cell? ⟨gb290, 5, none⟩ = some (.int .i64 a0_5) := (blk_cell BK290.out 5).trans rfl
          have hcz32_6 : wc.cell? ⟨gb290, 6, none⟩ = some (.int .i64 a0_6) := (blk_cell BK290.out 6).trans rfl
          have hfz32_0 := blk_frozen BK290.out 0
          have hfz32_1 := blk_frozen BK290.out 1
          have hfz32_2 := blk_frozen BK290.out 2
          have hfz32_3 := blk_frozen BK290.out 3
          have hfz32_4 := blk_frozen BK290.out 4
          have hfz32_5 := blk_frozen BK290.out 5
          have hfz32_6 := blk_frozen BK290.out 6
          try go_wp2
          have n0_ := Aside0.mk (blk_drew BK290.out)
          have n1_ := Aside0.mk (blk_drew BK291.out)
          have n2_ := Aside0.mk (below_drew1 HB.out)
          clear BK290
          clear BK291
          clear HB
          have BK290 := n0_
          have BK291 := n1_
          have HB := n2_
          clear n0_ n1_ n2_
          refine start_ (n := 8) (S := fun w' => w'.cell? ⟨gb290, 0, none⟩ = some (.bool a0_0) ∧ w'.cell? ⟨gb290, 1, none⟩ = some (.int .i64 a0_1) ∧ w'.cell? ⟨gb290, 2, none⟩ = some (.int .i64 a0_2) ∧ w'.cell? ⟨gb290, 3, none⟩ = some (.int .i64 a0_3) ∧ w'.cell? ⟨gb290, 4, none⟩ = some (.int .i64 a0_4) ∧ w'.cell? ⟨gb290, 5, none⟩ = some (.int .i64 a0_5) ∧ w'.cell? ⟨gb290, 6, none⟩ = some (.int .i64 a0_6) ∧ w'.cell? ⟨gb291, 0, none⟩ = some (.int .i64 a1_0) ∧ w'.cell? ⟨gb291, 1, none⟩ = some (.int .i64 a1_1)) (ds := []) #[false, false, false, false, false, false, false, false] (by kernel_rfl) rfl rfl ⟨(blk_cell BK290.out 0).trans rfl, (blk_cell BK290.out 1).trans rfl, (blk_cell BK290.out 2).trans rfl, (blk_cell BK290.out 3).trans rfl, (blk_cell BK290.out 4).trans rfl, (blk_cell BK290.out 5).trans rfl, (blk_cell BK290.out 6).trans rfl, (blk_cell BK291.out 0).trans rfl, (blk_cell BK291.out 1).trans rfl⟩ (fun hHeld => ?_); refine with_tabW slotmeshlaw10_isTrue.tab7 slotmeshlaw10_isTrue.bits7 (fun HT_ HW_ => ?_)
          generalize wc.drew = w33 at BK290 BK291 HB hHeld ⊢
          refine pure_ (i := 0) (N := some 38) (v := ?_) (a' := ?_) #[true, false, false, false, false, false, false, false] rfl rfl (any_of HT_.out (by kernel_rfl)) (fun _ _ _ h => h) (Or.inl ⟨by rfl, ?_⟩) ?_ ?_
          rotate_left
          · intro w'
            go_simp
            with_reducible rfl
          rotate_left
          · simp only [Act.put, List.setIfInBounds_toArray, List.set_cons_zero, List.set_cons_succ, i64_w, i32_w]
            rfl
          refine pure_ (i := 2) (N := some 40) (v := ?_) (a' := ?_) #[true, false, true, false, false, false, false, false] rfl rfl (any_of HT_.out (by kernel_rfl)) (fun _ _ _ h => h) (Or.inl ⟨by rfl, ?_⟩) ?_ ?_
          rotate_left
          · intro w'
            go_simp
            with_reducible rfl
          rotate_left
          · simp only [Act.put, List.setIfInBounds_toArray, List.set_cons_zero, List.set_cons_succ, i64_w, i32_w]
            rfl
          refine pure_ (i := 4) (N := some 42) (v := ?_) (a' := ?_) #[true, false, true, false, true, false, false, false] rfl rfl (any_of HT_.out (by kernel_rfl)) (fun _ _ _ h => h) (Or.inl ⟨by rfl, ?_⟩) ?_ ?_
          rotate_left
          · intro w'
            go_simp
            with_reducible rfl
          rotate_left
          · simp only [Act.put, List.setIfInBounds_toArray, List.set_cons_zero, List.set_cons_succ, i64_w, i32_w]
            rfl
          refine take_ (i := 1) (N := some 39) (v := ?_) (a' := ?_) #[true, true, true, false, true, false, false, false] rfl rfl (take_ofW HT_.out HW_.out (by kernel_rfl)) (fun _ _ _ h => h) (Or.inl ⟨by rfl, ?_⟩) hHeld ?_ ?_
          rotate_left
          · rintro w' ⟨s0, s1, s2, s3, s4, s5, s6, s7, s8⟩
            go_simp
            with_reducible rfl
          rotate_left
          · simp only [Act.put, List.setIfInBounds_toArray, List.set_cons_zero, List.set_cons_succ, i64_w, i32_w]
            rfl
          refine take_ (i := 3) (N := some 41) (v := ?_) (a' := ?_) #[true, true, true, true, true, false, false, false] rfl rfl (take_ofW HT_.out HW_.out (by kernel_rfl)) (fun _ _ _ h => h) (Or.inl ⟨by rfl, ?_⟩) hHeld ?_ ?_
          rotate_left
          · rintro w' ⟨s0, s1, s2, s3, s4, s5, s6, s7, s8⟩
            go_simp
            with_reducible rfl
          rotate_left
          · simp only [Act.put, List.setIfInBounds_toArray, List.set_cons_zero, List.set_cons_succ, i64_w, i32_w]
            rfl
          refine one_ (i := 5) (N := some 43) #[true, true, true, true, true, true, false, false] rfl rfl (one_of HT_.out (by kernel_rfl)) (by decide) (fun K hK => ?_)
          refine goes_ Try.func47 (by kernel_rfl) rfl #[.agg #[.int .i64 a1_0, .int .i64 a1_1], .int .i64 a2] (by rfl) rfl rfl (by (try simp only [List.map_toArray, List.map_cons, List.map_nil]); first | done | rfl | (simp only [List.length_drop, List.length_take]; rfl)) ?_
          with_reducible refine (slotmeshref07_At.calls a1_0 a1_1 a2 t294 _ A29.out).mono ?_
          rintro e w34 ⟨rfl, hb⟩
          refine ⟨_, rfl, ?_⟩
          have n0_ := Aside0.mk (blk_below (g := gb290) (o := .cells #[.bool a0_0, .int .i64 a0_1, .int .i64 a0_2, .int .i64 a0_3, .int .i64 a0_4, .int .i64 a0_5, .int .i64 a0_6] 25 (0, 0)) (by (with_reducible repeat (first | refine blk_drewN ?_ _ | refine blk_drew ?_ | refine blk_alloc ?_ _)); exact BK290.out) hb)
          have n1_ := Aside0.mk (blk_below (g := gb291) (o := .cells #[.int .i64 a1_0, .int .i64 a1_1] 27 (0, 0)) (by (with_reducible repeat (first | refine blk_drewN ?_ _ | refine blk_drew ?_ | refine blk_alloc ?_ _)); exact BK291.out) hb)
          have n2_ := Aside0.mk (below_step (by repeat (first | (with_reducible first | exact HB.out | apply below_alloc | apply pw_below_drewN | apply below_drew1 | refine below_set ?_ GE290.out | refine below_set ?_ GE291.out) | exact HB.out)) hb)
          clear BK290
          clear BK291
          clear HB
          have BK290 := n0_
          have BK291 := n1_
          have HB := n2_
          clear n0_ n1_ n2_
          (try clear hb)
          (try clear hb2)
          (try clear hk)
          (try clear hi)
          refine hK.out _ _ ⟨(blk_cell BK290.out 0).trans rfl, (blk_cell BK290.out 1).trans rfl, (blk_cell BK290.out 2).trans rfl, (blk_cell BK290.out 3).trans rfl, (blk_cell BK290.out 4).trans rfl, (blk_cell BK290.out 5).trans rfl, (blk_cell BK290.out 6).trans rfl, (blk_cell BK291.out 0).trans rfl, (blk_cell BK291.out 1).trans rfl⟩ (fun hHeld => ?_)
          clear hK K
          refine norm_ (a' := ?_) ?_ ?_
          rotate_left
          · show Act.put _ (some 43) _ = _
            simp only [Act.put, List.setIfInBounds_toArray, List.set_cons_zero, List.set_cons_succ, i64_w, i32_w]
            rfl
          refine one_ (i := 6) (N := some 44) #[true, true, true, true, true, true, true, false] rfl rfl (one_of HT_.out (by kernel_rfl)) (by decide) (fun K hK => ?_)
          refine goes_ Try.func21 (by kernel_rfl) rfl #[.agg #[.int .i64 a0_1, .int .i64 a0_2, .int .i64 a0_3], .int .i64 a2, .int .i64 t294] (by rfl) rfl rfl (by (try simp only [List.map_toArray, List.map_cons, List.map_nil]); first | done | rfl | (simp only [List.length_drop, List.length_take]; rfl)) ?_
          with_reducible refine (slotmeshref08_True.calls a0_1 a0_2 a0_3 a2 t294 t295 _ A30.out).mono ?_
          rintro e w35 ⟨rfl, hb⟩
          refine ⟨_, rfl, ?_⟩
          have n0_ := Aside0.mk (blk_below (g := gb290) (o := .cells #[.bool a0_0, .int .i64 a0_1, .int .i64 a0_2, .int .i64 a0_3, .int .i64 a0_4, .int .i64 a0_5, .int .i64 a0_6] 25 (0, 0)) (by (with_reducible repeat (first | refine blk_drewN ?_ _ | refine blk_drew ?_ | refine blk_alloc ?_ _)); exact BK290.out) hb)
          have n1_ := Aside0.mk (blk_below (g := gb291) (o := .cells #[.int .i64 a1_0, .int .i64 a1_1] 27 (0, 0)) (by (with_reducible repeat (first | refine blk_drewN ?_ _ | refine blk_drew ?_ | refine blk_alloc ?_ _)); exact BK291.out) hb)
          have n2_ := Aside0.mk (below_step (by repeat (first | (with_reducible first | exact HB.out | apply below_alloc | apply pw_below_drewN | apply below_drew1 | refine below_set ?_ GE290.out | refine below_set ?_ GE291.out) | exact HB.out)) hb)
          clear BK290
          clear BK291
          clear HB
          have BK290 := n0_
          have BK291 := n1_
          have HB := n2_
          clear n0_ n1_ n2_
          (try clear hb)
          (try clear hb2)
          (try clear hk)
          (try clear hi)
          refine hK.out _ _ ⟨(blk_cell BK290.out 0).trans rfl, (blk_cell BK290.out 1).trans rfl, (blk_cell BK290.out 2).trans rfl, (blk_cell BK290.out 3).trans rfl, (blk_cell BK290.out 4).trans rfl, (blk_cell BK290.out 5).trans rfl, (blk_cell BK290.out 6).trans rfl, (blk_cell BK291.out 0).trans rfl, (blk_cell BK291.out 1).trans rfl⟩ (fun hHeld => ?_)
          clear hK K
          refine norm_ (a' := ?_) ?_ ?_
          rotate_left
          · show Act.put _ (some 44) _ = _
            simp only [Act.put, List.setIfInBounds_toArray, List.set_cons_zero, List.set_cons_succ, i64_w, i32_w]
            rfl
          refine pure_ (i := 7) (N := some 6) (v := ?_) (a' := ?_) #[true, true, true, true, true, true, true, true] rfl rfl (any_of HT_.out (by kernel_rfl)) (fun _ _ _ h => h) (Or.inl ⟨by rfl, ?_⟩) ?_ ?_
          rotate_left
          · intro w'
            go_simp
            with_reducible rfl
          rotate_left
          · simp only [Act.put, List.setIfInBounds_toArray, List.set_cons_zero, List.set_cons_succ, i64_w, i32_w]
            rfl
          refine done_ (done_of HT_.out (by kernel_rfl)) ?_
          try go_wp2
          go_ret
          exact ⟨by first | rfl | (simp [errW_none, errW_some] <;> rfl) | (simp [*, errW_none, errW_some] <;> rfl), by repeat (first | (with_reducible first | exact HB.out | apply below_alloc | apply pw_below_drewN | apply below_drew1 | refine below_set ?_ GE290.out | refine below_set ?_ GE291.out) | exact HB.out)⟩
end Go.Proofs.Ytdpihbhkghjclaa.P
end
section
/- When a state is true for a clock. Conditions: none. -/
namespace Go.Proofs.Ytdpihbhkghjclaa.P
open Go.RowKit Go.Proofs.YtdpihbhkghjclaaW.PrintWords Go.Proofs.YtdpihbhkghjclaaW.PrintLast Go.Proofs.YtdpihbhkghjclaaW.PrintMore
set_option linter.unusedVariables false
set_option linter.unusedSimpArgs false
def IT (sy : Bool) (l h a ho so he off d t : Int) : Prop := SV true l h a ho so he ∧ CV off d ∧ sy = true ∧ (0 ≤ t ∧ t ≤ 10000000000000) ∧ (if ho = 0 then off = 0 ∧ d = 0 else a = AT off d t ∧ l ≤ t - AT off d t ∧ t - AT off d t ≤ h)
theorem isTrue_eq (k : Nat) (sy : Bool) (l h a ho so he off d t : Int) : ∃ b, slotmeshlaw10_isTrue.f (k + 1) sy l h a ho so he off d t = some b ∧ (b = true → IT sy l h a ho so he off d t) := by
  unfold slotmeshlaw10_isTrue.f
  rw [rsvalid_eq, rcvalid_eq]
  simp only [Option.bind_some]
  have bad : ∀ b, b = true → ∃ c, slotmeshlaw10_isTrue.j0 (k + 1) t b sy l h a ho so he off d = some c ∧ (c = true → IT sy l h a ho so he off d t) := by
    intro b e; subst e; exact ⟨false, by simp [slotmeshlaw10_isTrue.j0], fun q => by cases q⟩
  by_cases c1 : SV sy l h a ho so he
  rotate_left
  · rw [decide_eq_false c1, if_neg (by decide)]; exact bad _ rfl
  rw [decide_eq_true c1, if_pos rfl]
  by_cases c2 : CV off d
  rotate_left
  · rw [decide_eq_false c2, if_neg (by decide)]; exact bad _ rfl
  rw [decide_eq_true c2, if_pos rfl]
  cases sy
  · rw [if_neg (by decide)]; exact bad _ rfl
  rw [if_pos rfl]
  by_cases c3 : t < 0
  · rw [if_pos c3]; exact bad _ rfl
  rw [if_neg c3]
  by_cases c4 : t > 10000000000000
  · rw [decide_eq_true c4]; exact bad _ rfl
  rw [decide_eq_false c4]
  simp only [slotmeshlaw10_isTrue.j0, Bool.false_eq_true, if_false]
  by_cases c5 : ho = 0
  · rw [if_pos c5]
    refine ⟨_, rfl, fun q => ⟨c1, c2, rfl, by omega, ?_⟩⟩
    rw [if_pos c5]
    simpa using q
  · rw [if_neg c5, rat_eq c2 (by omega) (by omega)]
    simp only [Option.bind_some]
    have nn := AT_near c2 (show 0 ≤ t by omega) (show t ≤ 10000000000000 by omega)
    rw [True_eq _ _ _ _ _ (by omega)]
    simp only [Option.bind_some]
    refine ⟨_, rfl, fun q => ⟨c1, c2, rfl, by omega, ?_⟩⟩
    rw [if_neg c5]
    exact of_decide_eq_true q
end Go.Proofs.Ytdpihbhkghjclaa.P
end
