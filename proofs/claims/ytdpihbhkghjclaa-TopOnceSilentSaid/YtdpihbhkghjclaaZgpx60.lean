/- A claim's own texts, laid together by wip/zip.py without what the claim does not use. Conditions: none. -/
import Derived.Test.YtdpihbhkghjclaaZgpx0
import Derived.Test.YtdpihbhkghjclaaZgpx26
import Derived.Test.YtdpihbhkghjclaaZgpx33
import Derived.Test.YtdpihbhkghjclaaZgpx59
section
/- The Go functions of this claim as Lean functions, and the proofs that their calls answer so: written by wip/myprint.py over the kit's printer, hand-proved contracts laid in. Conditions: none. -/
namespace Go.Proofs.Ytdpihbhkghjclaa.P
open Go.RowKit Go.Proofs.YtdpihbhkghjclaaW.PrintWords Go.Proofs.YtdpihbhkghjclaaW.PrintLast Go.Proofs.YtdpihbhkghjclaaW.PrintMore
attribute [local go_sem] max2_int min2_int max_two min_two max_three min_three max_four min_four   -- for this text's walks alone
set_option linter.unusedVariables false
set_option linter.unusedSimpArgs false
/-! ### slotmeshtop_TopOnceSilent: function 3 -/
def slotmeshtop_TopOnceSilent.j0 : Nat → Int → Int → Bool → Bool → Bool → Int → Int → Int → Int → Int → Int → Int → Int → Option (Bool)
  | 0, _, _, _, _, _, _, _, _, _, _, _, _, _ => none
  | k + 1, x2, x3, x9, x31, x421000, x421001, x421002, x421003, x421004, x421005, x421006, x422000, x422001 => if x31 = true then (some x9) else ((guard_Send.f k x421000 x421001 x421002 x421003 x421004 x421005 x421006 x422000 x422001 x2).bind fun bt423 => ((guard_Send.f k x421000 x421001 x421002 x421003 x421004 x421005 x421006 x422000 x422001 (wrap64 (x2 + x3))).bind fun bt425 => (if bt423.2 = 16 then (if x9 = true then (if x421004 > 0 then ((slotmeshref10_Own.f x421000 x421001 x421002 x421003 x421004 x421005 x421006 x2).bind fun t427 => (if bt425.2 = 0 then (none) else (some true))) else (if bt425.2 = 0 then (none) else (some true))) else (if x421004 > 0 then ((slotmeshref10_Own.f x421000 x421001 x421002 x421003 x421004 x421005 x421006 x2).bind fun t428 => (none)) else (none))) else (if x421004 > 0 then ((slotmeshref10_Own.f x421000 x421001 x421002 x421003 x421004 x421005 x421006 x2).bind fun t429 => (if x9 = true then (if bt425.2 = 0 then (if t429 < x421003 then (some true) else (some (bt423.2 == 0))) else (some true)) else (none))) else (if x9 = true then (if bt425.2 = 0 then (some (bt423.2 == 0)) else (some true)) else (none))))))
def slotmeshtop_TopOnceSilent.f (k : Nat) (a0_0 : Bool) (a0_1 : Int) (a0_2 : Int) (a0_3 : Int) (a0_4 : Int) (a0_5 : Int) (a0_6 : Int) (a1_0 : Int) (a1_1 : Int) (a2 : Int) (a3 : Int) : Option (Bool) := (slotmeshtop_w17Time.f k).bind fun t422 => (if a2 < 0 then (slotmeshtop_TopOnceSilent.j0 k a2 a3 t422 true a0_0 a0_1 a0_2 a0_3 a0_4 a0_5 a0_6 a1_0 a1_1) else (if a3 < 0 then (slotmeshtop_TopOnceSilent.j0 k a2 a3 t422 true a0_0 a0_1 a0_2 a0_3 a0_4 a0_5 a0_6 a1_0 a1_1) else (if a2 ≥ 1000000000 then (slotmeshtop_TopOnceSilent.j0 k a2 a3 t422 true a0_0 a0_1 a0_2 a0_3 a0_4 a0_5 a0_6 a1_0 a1_1) else (slotmeshtop_TopOnceSilent.j0 k a2 a3 t422 (decide (a3 ≥ (wrap64 (1000000000 - a2)))) a0_0 a0_1 a0_2 a0_3 a0_4 a0_5 a0_6 a1_0 a1_1))))
def slotmeshtop_TopOnceSilent.T8 : Bool × List (List Nat × List Nat) := (true, [([], []), ([0], [0]), ([1], [1]), ([2], [2]), ([3], [3]), ([3], [3]), ([4, 5, 3, 3], [3, 4, 5]), ([3], [3]), ([7, 3], [3, 7]), ([8, 3], [3, 8]), ([6, 9, 3], [3, 6, 9]), ([3, 10], [3, 10]), ([11, 6, 0, 1, 2, 3, 4, 5, 6, 7, 8, 9, 10, 11], [11])])
def slotmeshtop_TopOnceSilent.B8 : List Nat := [0, 1, 3, 7, 15, 15, 63, 15, 143, 399, 1023, 2047, 4095]
theorem slotmeshtop_TopOnceSilent.tab8 : rtab .any (opsOf Try.f3 8) = slotmeshtop_TopOnceSilent.T8 := by kernel_rfl
theorem slotmeshtop_TopOnceSilent.bits8 : waitsOk slotmeshtop_TopOnceSilent.T8.2 slotmeshtop_TopOnceSilent.B8 = true := by kernel_rfl
set_option maxHeartbeats 8000000 in
set_option maxRecDepth 100000 in
theorem slotmeshtop_TopOnceSilent.calls (k : Nat) (a0_0 : Bool) (a0_1 : Int) (a0_2 : Int) (a0_3 : Int) (a0_4 : Int) (a0_5 : Int) (a0_6 : Int) (a1_0 : Int) (a1_1 : Int) (a2 : Int) (a3 : Int) (r : Bool) (w : World) (h : slotmeshtop_TopOnceSilent.f k a0_0 a0_1 a0_2 a0_3 a0_4 a0_5 a0_6 a1_0 a1_1 a2 a3 = some r) :
    Calls Try.prog 3 #[.agg #[.bool a0_0, .int .i64 a0_1, .int .i64 a0_2, .int .i64 a0_3, .int .i64 a0_4, .int .i64 a0_5, .int .i64 a0_6], .agg #[.int .i64 a1_0, .int .i64 a1_1], .int .i64 a2, .int .i64 a3] w fun e w' => e = .returned (.bool r) ∧ Below w.heap.size w w' := by
  have hu25 := Try.underlying25
  have hu27 := Try.underlying27
  have HB := Aside0.mk (Below.refl w.heap.size w)
  have H : ((slotmeshtop_w17Time.f k).bind fun t422 => (if a2 < 0 then (slotmeshtop_TopOnceSilent.j0 k a2 a3 t422 true a0_0 a0_1 a0_2 a0_3 a0_4 a0_5 a0_6 a1_0 a1_1) else (if a3 < 0 then (slotmeshtop_TopOnceSilent.j0 k a2 a3 t422 true a0_0 a0_1 a0_2 a0_3 a0_4 a0_5 a0_6 a1_0 a1_1) else (if a2 ≥ 1000000000 then (slotmeshtop_TopOnceSilent.j0 k a2 a3 t422 true a0_0 a0_1 a0_2 a0_3 a0_4 a0_5 a0_6 a1_0 a1_1) else (slotmeshtop_TopOnceSilent.j0 k a2 a3 t422 (decide (a3 ≥ (wrap64 (1000000000 - a2)))) a0_0 a0_1 a0_2 a0_3 a0_4 a0_5 a0_6 a1_0 a1_1))))) = some r := h
  clear h
  replace H := Option.bind_eq_some_iff.mp H
  obtain ⟨t422, A50, H⟩ := H
  replace H : (if a2 < 0 then (slotmeshtop_TopOnceSilent.j0 k a2 a3 t422 true a0_0 a0_1 a0_2 a0_3 a0_4 a0_5 a0_6 a1_0 a1_1) else (if a3 < 0 then (slotmeshtop_TopOnceSilent.j0 k a2 a3 t422 true a0_0 a0_1 a0_2 a0_3 a0_4 a0_5 a0_6 a1_0 a1_1) else (if a2 ≥ 1000000000 then (slotmeshtop_TopOnceSilent.j0 k a2 a3 t422 true a0_0 a0_1 a0_2 a0_3 a0_4 a0_5 a0_6 a1_0 a1_1) else (slotmeshtop_TopOnceSilent.j0 k a2 a3 t422 (decide (a3 ≥ (wrap64 (1000000000 - a2)))) a0_0 a0_1 a0_2 a0_3 a0_4 a0_5 a0_6 a1_0 a1_1)))) = some r := H
  have A5 := Aside0.mk A50
  clear A50
  have HC6 := Aside0.mk H
  clear H
  go_enter Try.func3, Try.ntmps3
  go_upto_region 2 with (first | ((with_reducible refine gate_dst (N := 4) rfl ?_); refine box_event ?hg (N := 4) ?hd (cs := #[.bool a0_0, .int .i64 a0_1, .int .i64 a0_2, .int .i64 a0_3, .int .i64 a0_4, .int .i64 a0_5, .int .i64 a0_6]) (t := 25) ?hr ?_; (case hd => rfl); (case hg => rfl); (case hr => first | (go_simp; done) | (go_simp; rfl)); intro gb420 hg w7 hbox hb; have n0_ := Aside0.mk (below_step (by repeat (first | (with_reducible first | exact HB.out | apply below_alloc | apply pw_below_drewN | apply below_drew1) | exact HB.out)) hb); have n1_ := Aside0.mk (hbox); have n2_ := Aside0.mk ((by rw [hg]; exact (below_size (by repeat (first | (with_reducible first | exact HB.out | apply below_alloc | apply pw_below_drewN | apply below_drew1) | exact HB.out))) : w.heap.size ≤ gb420)); have n3_ := Aside0.mk ((by rw [hg]; exact (below_size (by repeat (first | (with_reducible first | exact HB.out | apply below_alloc | apply pw_below_drewN | apply below_drew1) | exact HB.out))) : w.heap.size ≤ gb420)); clear HB; have HB := n0_; have BK420 := n1_; have GW420 := n2_; have GE420 := n3_; clear n0_ n1_ n2_ n3_; clear hb hbox hg) | ((with_reducible refine gate_dst (N := 5) rfl ?_); refine box_event ?hg (N := 5) ?hd (cs := #[.int .i64 a1_0, .int .i64 a1_1]) (t := 27) ?hr ?_; (case hd => rfl); (case hg => rfl); (case hr => first | (go_simp; done) | (go_simp; rfl)); intro gb421 hg w8 hbox hb; have n0_ := Aside0.mk (blk_below (g := gb420) (o := .cells #[.bool a0_0, .int .i64 a0_1, .int .i64 a0_2, .int .i64 a0_3, .int .i64 a0_4, .int .i64 a0_5, .int .i64 a0_6] 25 (0, 0)) (by (with_reducible repeat (first | refine blk_drewN ?_ _ | refine blk_drew ?_ | refine blk_alloc ?_ _)); exact BK420.out) hb); have n1_ := Aside0.mk (below_step (by repeat (first | (with_reducible first | exact HB.out | apply below_alloc | apply pw_below_drewN | apply below_drew1 | refine below_set ?_ GE420.out) | exact HB.out)) hb); have n2_ := Aside0.mk (hbox); have n3_ := Aside0.mk ((by rw [hg]; exact (below_size (by repeat (first | (with_reducible first | exact HB.out | apply below_alloc | apply pw_below_drewN | apply below_drew1 | refine below_set ?_ GE420.out) | exact HB.out))) : w.heap.size ≤ gb421)); have n4_ := Aside0.mk ((by rw [hg]; exact (below_size (by repeat (first | (with_reducible first | exact HB.out | apply below_alloc | apply pw_below_drewN | apply below_drew1 | refine below_set ?_ GE420.out) | exact HB.out))) : w.heap.size ≤ gb421)); have n5_ := Aside0.mk ((by rw [hg]; exact Nat.ne_of_lt (blk_lt (g := gb420) (o := .cells #[.bool a0_0, .int .i64 a0_1, .int .i64 a0_2, .int .i64 a0_3, .int .i64 a0_4, .int .i64 a0_5, .int .i64 a0_6] 25 (0, 0)) (by (with_reducible repeat (first | refine blk_drewN ?_ _ | refine blk_drew ?_ | refine blk_alloc ?_ _)); exact BK420.out)) : gb420 ≠ gb421)); have n6_ := Aside0.mk ((by rw [hg]; exact Nat.ne_of_gt (blk_lt (g := gb420) (o := .cells #[.bool a0_0, .int .i64 a0_1, .int .i64 a0_2, .int .i64 a0_3, .int .i64 a0_4, .int .i64 a0_5, .int .i64 a0_6] 25 (0, 0)) (by (with_reducible repeat (first | refine blk_drewN ?_ _ | refine blk_drew ?_ | refine blk_alloc ?_ _)); exact BK420.out)) : gb421 ≠ gb420)); clear BK420; clear HB; have BK420 := n0_; have HB := n1_; have BK421 := n2_; have GW421 := n3_; have GE421 := n4_; have NB420_421 := n5_; have NB421_420 := n6_; clear n0_ n1_ n2_ n3_ n4_ n5_ n6_; clear hb hbox hg) | ((with_reducible refine gate_callee (f := 12) rfl ?_); refine goesL_ (some 15) rfl rfl Try.func12 (by kernel_rfl) rfl #[] rfl (by (try simp only [List.map_toArray, List.map_cons, List.map_nil]); first | done | rfl | (simp only [List.length_drop, List.length_take]; rfl)) ?_; (with_reducible refine (slotmeshtop_w17Time.calls k  t422 _ A5.out).mono ?_); rintro e w9 ⟨rfl, hb⟩; refine ⟨_, rfl, ?_⟩; have n0_ := Aside0.mk (blk_below (g := gb420) (o := .cells #[.bool a0_0, .int .i64 a0_1, .int .i64 a0_2, .int .i64 a0_3, .int .i64 a0_4, .int .i64 a0_5, .int .i64 a0_6] 25 (0, 0)) (by (with_reducible repeat (first | refine blk_drewN ?_ _ | refine blk_drew ?_ | refine blk_alloc ?_ _)); exact BK420.out) hb); have n1_ := Aside0.mk (blk_below (g := gb421) (o := .cells #[.int .i64 a1_0, .int .i64 a1_1] 27 (0, 0)) (by (with_reducible repeat (first | refine blk_drewN ?_ _ | refine blk_drew ?_ | refine blk_alloc ?_ _)); exact BK421.out) hb); have n2_ := Aside0.mk (below_step (by repeat (first | (with_reducible first | exact HB.out | apply below_alloc | apply pw_below_drewN | apply below_drew1 | refine below_set ?_ GE420.out | refine below_set ?_ GE421.out) | exact HB.out)) hb); clear BK420; clear BK421; clear HB; have BK420 := n0_; have BK421 := n1_; have HB := n2_; clear n0_ n1_ n2_; (try clear hb); (try clear hb2); (try clear hk); (try clear hi)))
  (try simp only [Act.put, List.setIfInBounds_toArray, List.set_cons_zero, List.set_cons_succ])
  go_cut [31] (fun v31 wc => ∃ (kq : Nat) (x31_5 : Bool), v31 = .bool x31_5 ∧ Aside0 (slotmeshtop_TopOnceSilent.j0 kq a2 a3 t422 x31_5 a0_0 a0_1 a0_2 a0_3 a0_4 a0_5 a0_6 a1_0 a1_1 = some r) ∧ Aside0 (kq ≤ k) ∧ Aside0 (wc.heap[gb420]? = some (.cells #[.bool a0_0, .int .i64 a0_1, .int .i64 a0_2, .int .i64 a0_3, .int .i64 a0_4, .int .i64 a0_5, .int .i64 a0_6] 25 (0, 0))) ∧ Aside0 (wc.heap[gb421]? = some (.cells #[.int .i64 a1_0, .int .i64 a1_1] 27 (0, 0))) ∧ Aside0 (Below w.heap.size w wc))
  case first =>
    have H := HC6.out
    clear HC6
    by_cases c10 : a2 < 0
    · rw [if_pos c10] at H
      have c10b0 : decide (a2 < 0) = true := decide_eq_true c10
      clear c10
      (first | rw [c10b0] | (simp only [i64_w, i32_w]; rw [c10b0]) | skip)
      have H' := Aside0.mk H
      clear H
      go_wp2
      go_meet
      case rel => exact ⟨_, (true), (by first | rfl | (simp; done) | (simp [*]; done)), H', ⟨by first | omega | exact Nat.le_refl _⟩, ⟨by (with_reducible repeat (first | refine blk_drewN ?_ _ | refine blk_drew ?_ | refine blk_alloc ?_ _)); exact BK420.out⟩, ⟨by (with_reducible repeat (first | refine blk_drewN ?_ _ | refine blk_drew ?_ | refine blk_alloc ?_ _)); exact BK421.out⟩, ⟨by repeat (first | (with_reducible first | exact HB.out | apply below_alloc | apply pw_below_drewN | apply below_drew1 | refine below_set ?_ GE420.out | refine below_set ?_ GE421.out) | exact HB.out)⟩⟩
    · rw [if_neg c10] at H
      have c10b0 : decide (a2 < 0) = false := decide_eq_false c10
      clear c10
      (first | rw [c10b0] | (simp only [i64_w, i32_w]; rw [c10b0]) | skip)
      by_cases c11 : a3 < 0
      · rw [if_pos c11] at H
        have c11b0 : decide (a3 < 0) = true := decide_eq_true c11
        clear c11
        have H' := Aside0.mk H
        clear H
        go_wp2
        go_meet
        case rel => exact ⟨_, (true), (by first | rfl | (simp; done) | (simp [*]; done)), H', ⟨by first | omega | exact Nat.le_refl _⟩, ⟨by (with_reducible repeat (first | refine blk_drewN ?_ _ | refine blk_drew ?_ | refine blk_alloc ?_ _)); exact BK420.out⟩, ⟨by (with_reducible repeat (first | refine blk_drewN ?_ _ | refine blk_drew ?_ | refine blk_alloc ?_ _)); exact BK421.out⟩, ⟨by repeat (first | (with_reducible first | exact HB.out | apply below_alloc | apply pw_below_drewN | apply below_drew1 | refine below_set ?_ GE420.out | refine below_set ?_ GE421.out) | exact HB.out)⟩⟩
      · rw [if_neg c11] at H
        have c11b0 : decide (a3 < 0) = false := decide_eq_false c11
        clear c11
        by_cases c12 : a2 ≥ 1000000000
        · rw [if_pos c12] at H
          have c12b0 : decide (1000000000 ≤ a2) = true := decide_eq_true c12
          clear c12
          have H' := Aside0.mk H
          clear H
          go_wp2
          go_meet
          case rel => exact ⟨_, (true), (by first | rfl | (simp; done) | (simp [*]; done)), H', ⟨by first | omega | exact Nat.le_refl _⟩, ⟨by (with_reducible repeat (first | refine blk_drewN ?_ _ | refine blk_drew ?_ | refine blk_alloc ?_ _)); exact BK420.out⟩, ⟨by (with_reducible repeat (first | refine blk_drewN ?_ _ | refine blk_drew ?_ | refine blk_alloc ?_ _)); exact BK421.out⟩, ⟨by repeat (first | (with_reducible first | exact HB.out | apply below_alloc | apply pw_below_drewN | apply below_drew1 | refine below_set ?_ GE420.out | refine below_set ?_ GE421.out) | exact HB.out)⟩⟩
        · rw [if_neg c12] at H
          have c12b0 : decide (1000000000 ≤ a2) = false := decide_eq_false c12
          clear c12
          have H' := Aside0.mk H
          clear H
          go_wp2
          go_meet
          case rel => exact ⟨_, (decide (a3 ≥ (wrap64 (1000000000 - a2)))), (by first | rfl | (simp; done) | (simp [*]; done)), H', ⟨by first | omega | exact Nat.le_refl _⟩, ⟨by (with_reducible repeat (first | refine blk_drewN ?_ _ | refine blk_drew ?_ | refine blk_alloc ?_ _)); exact BK420.out⟩, ⟨by (with_reducible repeat (first | refine blk_drewN ?_ _ | refine blk_drew ?_ | refine blk_alloc ?_ _)); exact BK421.out⟩, ⟨by repeat (first | (with_reducible first | exact HB.out | apply below_alloc | apply pw_below_drewN | apply below_drew1 | refine below_set ?_ GE420.out | refine below_set ?_ GE421.out) | exact HB.out)⟩⟩
  case rest =>
    clear HC6
    try clear c1
    try clear p2
    try clear c3
    try clear p6
    try clear c10
    try clear c10b0
    try clear c11
    try clear c11b0
    try clear c12
    try clear c12b0
    obtain ⟨kq, x31_5, rfl, HA, HJ5, BK420, BK421, HB⟩ := hcut
    cases kq with
    | zero => exact absurd HA.out (by simp [slotmeshtop_TopOnceSilent.j0])
    | succ kj5 =>
      have H := HA.out
      clear HA
      simp only [slotmeshtop_TopOnceSilent.j0] at H
      by_cases c13 : x31_5 = true
      · subst c13
        have H1 : (some t422) = some r := by rw [if_pos rfl] at H; exact H
        clear H
        have H := H1
        clear H1
        obtain rfl := Option.some.inj H
        go_wp2
        go_ret
        exact ⟨by first | rfl | (simp [errW_none, errW_some] <;> rfl) | (simp [*, errW_none, errW_some] <;> rfl), by repeat (first | (with_reducible first | exact HB.out | apply below_alloc | apply pw_below_drewN | apply below_drew1 | refine below_set ?_ GE420.out | refine below_set ?_ GE421.out) | exact HB.out)⟩
      · replace c13 := Bool.eq_false_iff.mpr c13
        subst c13
        have H1 : ((guard_Send.f kj5 a0_0 a0_1 a0_2 a0_3 a0_4 a0_5 a0_6 a1_0 a1_1 a2).bind fun bt423 => ((guard_Send.f kj5 a0_0 a0_1 a0_2 a0_3 a0_4 a0_5 a0_6 a1_0 a1_1 (wrap64 (a2 + a3))).bind fun bt425 => (if bt423.2 = 16 then (if t422 = true then (if a0_4 > 0 then ((slotmeshref10_Own.f a0_0 a0_1 a0_2 a0_3 a0_4 a0_5 a0_6 a2).bind fun t427 => (if bt425.2 = 0 then (none) else (some true))) else (if bt425.2 = 0 then (none) else (some true))) else (if a0_4 > 0 then ((slotmeshref10_Own.f a0_0 a0_1 a0_2 a0_3 a0_4 a0_5 a0_6 a2).bind fun t428 => (none)) else (none))) else (if a0_4 > 0 then ((slotmeshref10_Own.f a0_0 a0_1 a0_2 a0_3 a0_4 a0_5 a0_6 a2).bind fun t429 => (if t422 = true then (if bt425.2 = 0 then (if t429 < a0_3 then (some true) else (some (bt423.2 == 0))) else (some true)) else (none))) else (if t422 = true then (if bt425.2 = 0 then (some (bt423.2 == 0)) else (some true)) else (none)))))) = some r := by rw [if_neg (show ¬ (false = true) by decide)] at H; exact H
        clear H
        have H := H1
        clear H1
        replace H := Option.bind_eq_some_iff.mp H
        obtain ⟨⟨t423, t424⟩, A140, H⟩ := H
        replace H : ((guard_Send.f kj5 a0_0 a0_1 a0_2 a0_3 a0_4 a0_5 a0_6 a1_0 a1_1 (wrap64 (a2 + a3))).bind fun bt425 => (if t424 = 16 then (if t422 = true then (if a0_4 > 0 then ((slotmeshref10_Own.f a0_0 a0_1 a0_2 a0_3 a0_4 a0_5 a0_6 a2).bind fun t427 => (if bt425.2 = 0 then (none) else (some true))) else (if bt425.2 = 0 then (none) else (some true))) else (if a0_4 > 0 then ((slotmeshref10_Own.f a0_0 a0_1 a0_2 a0_3 a0_4 a0_5 a0_6 a2).bind fun t428 => (none)) else (none))) else (if a0_4 > 0 then ((slotmeshref10_Own.f a0_0 a0_1 a0_2 a0_3 a0_4 a0_5 a0_6 a2).bind fun t429 => (if t422 = true then (if bt425.2 = 0 then (if t429 < a0_3 then (some true) else (some (t424 == 0))) else (some true)) else (none))) else (if t422 = true then (if bt425.2 = 0 then (some (t424 == 0)) else (some true)) else (none))))) = some r := H
        have A14 := Aside0.mk A140
        clear A140
        replace H := Option.bind_eq_some_iff.mp H
        obtain ⟨⟨t425, t426⟩, A150, H⟩ := H
        replace H : (if t424 = 16 then (if t422 = true then (if a0_4 > 0 then ((slotmeshref10_Own.f a0_0 a0_1 a0_2 a0_3 a0_4 a0_5 a0_6 a2).bind fun t427 => (if t426 = 0 then (none) else (some true))) else (if t426 = 0 then (none) else (some true))) else (if a0_4 > 0 then ((slotmeshref10_Own.f a0_0 a0_1 a0_2 a0_3 a0_4 a0_5 a0_6 a2).bind fun t428 => (none)) else (none))) else (if a0_4 > 0 then ((slotmeshref10_Own.f a0_0 a0_1 a0_2 a0_3 a0_4 a0_5 a0_6 a2).bind fun t429 => (if t422 = true then (if t426 = 0 then (if t429 < a0_3 then (some true) else (some (t424 == 0))) else (some true)) else (none))) else (if t422 = true then (if t426 = 0 then (some (t424 == 0)) else (some true)) else (none)))) = some r := H
        have A15 := Aside0.mk A150
        clear A150
        by_cases c16 : t424 = 16
        · rw [if_pos c16] at H
          have c16b0 : (t424 == 16) = true := beq_iff_eq.mpr c16
          have c16b1 : (t424 != 16) = false := bne_eq_false_iff_eq.mpr c16
          clear c16
          by_cases c17 : t422 = true
          · subst c17
            have H1 : (if a0_4 > 0 then ((slotmeshref10_Own.f a0_0 a0_1 a0_2 a0_3 a0_4 a0_5 a0_6 a2).bind fun t427 => (if t426 = 0 then (none) else (some true))) else (if t426 = 0 then (none) else (some true))) = some r := by rw [if_pos rfl] at H; exact H
            clear H
            have H := H1
            clear H1
            by_cases c18 : a0_4 > 0
            · rw [if_pos c18] at H
              have c18b0 : decide (0 < a0_4) = true := decide_eq_true c18
              clear c18
              replace H := Option.bind_eq_some_iff.mp H
              obtain ⟨t427, A190, H⟩ := H
              replace H : (if t426 = 0 then (none) else (some true)) = some r := H
              have A19 := Aside0.mk A190
              clear A190
              by_cases c20 : t426 = 0
              · rw [if_pos c20] at H
                exact absurd H (by simp)
              · rw [if_neg c20] at H
                have c20b0 : (t426 == 0) = false := beq_eq_false_iff_ne.mpr c20
                have c20b1 : (t426 != 0) = true := bne_iff_ne.mpr c20
                obtain rfl := Option.some.inj H
                have hnb21 := NB420_421.out
                have hnc21 := NB421_420.out
                have hcz22_0 : wc.cell? ⟨gb420, 0, none⟩ = some (.bool a0_0) := (blk_cell BK420.out 0).trans rfl
                have hcz22_1 : wc.cell? ⟨gb420, 1, none⟩ = some (.int .i64 a0_1) := (blk_cell BK420.out 1).trans rfl
                have hcz22_2 : wc.cell? ⟨gb420, 2, none⟩ = some (.int .i64 a0_2) := (blk_cell BK420.out 2).trans rfl
                have hcz22_3 : wc.cell? ⟨gb420, 3, none⟩ = some (.int .i64 a0_3) := (blk_cell BK420.out 3).trans rfl
                have hcz22_4 : wc.cell? ⟨gb420, 4, none⟩ = some (.int .i64 a0_4) := (blk_cell BK420.out 4).trans rfl
                have hcz22_5 : wc.cell? ⟨gb420, 5, none⟩ = some (.int .i64 a0_5) := (blk_cell BK420.out 5).trans rfl
                have hcz22_6 : wc.cell? ⟨gb420, 6, none⟩ = some (.int .i64 a0_6) := (blk_cell BK420.out 6).trans rfl
                have hfz22_0 := blk_frozen BK420.out 0
                have hfz22_1 := blk_frozen BK420.out 1
                have hfz22_2 := blk_frozen BK420.out 2
                have hfz22_3 := blk_frozen BK420.out 3
                have hfz22_4 := blk_frozen BK420.out 4
                have hfz22_5 := blk_frozen BK420.out 5
                have hfz22_6 := blk_frozen BK420.out 6
                have hcz23_0 : wc.cell? ⟨gb421, 0, none⟩ = some (.int .i64 a1_0) := (blk_cell BK421.out 0).trans rfl
                have hcz23_1 : wc.cell? ⟨gb421, 1, none⟩ = some (.int .i64 a1_1) := (blk_cell BK421.out 1).trans rfl
                have hfz23_0 := blk_frozen BK421.out 0
                have hfz23_1 := blk_frozen BK421.out 1
                try go_wp2_with (first | ((with_reducible refine gate_callee (f := 13) rfl ?_); refine goesL_ (some 37) rfl rfl Try.func13 (by kernel_rfl) rfl #[.agg #[.bool a0_0, .int .i64 a0_1, .int .i64 a0_2, .int .i64 a0_3, .int .i64 a0_4, .int .i64 a0_5, .int .i64 a0_6], .agg #[.int .i64 a1_0, .int .i64 a1_1], .int .i64 a2] rfl (by (try simp only [List.map_toArray, List.map_cons, List.map_nil]); first | done | rfl | (simp only [List.length_drop, List.length_take]; rfl)) ?_; (with_reducible refine (guard_Send.calls kj5 a0_0 a0_1 a0_2 a0_3 a0_4 a0_5 a0_6 a1_0 a1_1 a2 t423 t424 _ A14.out).mono ?_); rintro e w24 ⟨rfl, hb⟩; refine ⟨_, rfl, ?_⟩; have n0_ := Aside0.mk (blk_below (g := gb420) (o := .cells #[.bool a0_0, .int .i64 a0_1, .int .i64 a0_2, .int .i64 a0_3, .int .i64 a0_4, .int .i64 a0_5, .int .i64 a0_6] 25 (0, 0)) (by (with_reducible repeat (first | refine blk_drewN ?_ _ | refine blk_drew ?_ | refine blk_alloc ?_ _)); exact BK420.out) hb); have n1_ := Aside0.mk (blk_below (g := gb421) (o := .cells #[.int .i64 a1_0, .int .i64 a1_1] 27 (0, 0)) (by (with_reducible repeat (first | refine blk_drewN ?_ _ | refine blk_drew ?_ | refine blk_alloc ?_ _)); exact BK421.out) hb); have n2_ := Aside0.mk (below_step (by repeat (first | (with_reducible first | exact HB.out | apply below_alloc | apply pw_below_drewN | apply below_drew1 | refine below_set ?_ GE420.out | refine below_set ?_ GE421.out) | exact HB.out)) hb); clear BK420; clear BK421; clear HB; have BK420 := n0_; have BK421 := n1_; have HB := n2_; clear n0_ n1_ n2_; (try clear hb); (try clear hb2); (try clear hk); (try clear hi); have hcz25_0 : w24.cell? ⟨gb420, 0, none⟩ = some (.bool a0_0) := (blk_cell BK420.out 0).trans rfl; have hcz25_1 : w24.cell? ⟨gb420, 1, none⟩ = some (.int .i64 a0_1) := (blk_cell BK420.out 1).trans rfl; have hcz25_2 : w24.cell? ⟨gb420, 2, none⟩ = some (.int .i64 a0_2) := (blk_cell BK420.out 2).trans rfl; have hcz25_3 : w24.cell? ⟨gb420, 3, none⟩ = some (.int .i64 a0_3) := (blk_cell BK420.out 3).trans rfl; have hcz25_4 : w24.cell? ⟨gb420, 4, none⟩ = some (.int .i64 a0_4) := (blk_cell BK420.out 4).trans rfl; have hcz25_5 : w24.cell? ⟨gb420, 5, none⟩ = some (.int .i64 a0_5) := (blk_cell BK420.out 5).trans rfl; have hcz25_6 : w24.cell? ⟨gb420, 6, none⟩ = some (.int .i64 a0_6) := (blk_cell BK420.out 6).trans rfl; have hfz25_0 := blk_frozen BK420.out 0; have hfz25_1 := blk_frozen BK420.out 1; have hfz25_2 := blk_frozen BK420.out 2; have hfz25_3 := blk_frozen BK420.out 3; have hfz25_4 := blk_frozen BK420.out 4; have hfz25_5 := blk_frozen BK420.out 5; have hfz25_6 := blk_frozen BK420.out 6; have hcz26_0 : w24.cell? ⟨gb421, 0, none⟩ = some (.int .i64 a1_0) := (blk_cell BK421.out 0).trans rfl; have hcz26_1 : w24.cell? ⟨gb421, 1, none⟩ = some (.int .i64 a1_1) := (blk_cell BK421.out 1).trans rfl; have hfz26_0 := blk_frozen BK421.out 0; have hfz26_1 := blk_frozen BK421.out 1) | ((with_reducible refine gate_callee (f := 13) rfl ?_); refine goesL_ (some 46) rfl rfl Try.func13 (by kernel_rfl) rfl #[.agg #[.bool a0_0, .int .i64 a0_1, .int .i64 a0_2, .int .i64 a0_3, .int .i64 a0_4, .int .i64 a0_5, .int .i64 a0_6], .agg #[.int .i64 a1_0, .int .i64 a1_1], .int .i64 (wrap64 (a2 + a3))] rfl (by (try simp only [List.map_toArray, List.map_cons, List.map_nil]); first | done | rfl | (simp only [List.length_drop, List.length_take]; rfl)) ?_; (with_reducible refine (guard_Send.calls kj5 a0_0 a0_1 a0_2 a0_3 a0_4 a0_5 a0_6 a1_0 a1_1 (wrap64 (a2 + a3)) t425 t426 _ A15.out).mono ?_); rintro e w27 ⟨rfl, hb⟩; refine ⟨_, rfl, ?_⟩; have n0_ := Aside0.mk (blk_below (g := gb420) (o := .cells #[.bool a0_0, .int .i64 a0_1, .int .i64 a0_2, .int .i64 a0_3, .int .i64 a0_4, .int .i64 a0_5, .int .i64 a0_6] 25 (0, 0)) (by (with_reducible repeat (first | refine blk_drewN ?_ _ | refine blk_drew ?_ | refine blk_alloc ?_ _)); exact BK420.out) hb); have n1_ := Aside0.mk (blk_below (g := gb421) (o := .cells #[.int .i64 a1_0, .int .i64 a1_1] 27 (0, 0)) (by (with_reducible repeat (first | refine blk_drewN ?_ _ | refine blk_drew ?_ | refine blk_alloc ?_ _)); exact BK421.out) hb); have n2_ := Aside0.mk (below_step (by repeat (first | (with_reducible first | exact HB.out | apply below_alloc | apply pw_below_drewN | apply below_drew1 | refine below_set ?_ GE420.out | refine below_set ?_ GE421.out) | exact HB.out)) hb); clear BK420; clear BK421; clear HB; have BK420 := n0_; have BK421 := n1_; have HB := n2_; clear n0_ n1_ n2_; (try clear hb); (try clear hb2); (try clear hk); (try clear hi)))
                have n0_ := Aside0.mk (blk_drew BK420.out)
                have n1_ := Aside0.mk (blk_drew BK421.out)
                have n2_ := Aside0.mk (below_drew1 HB.out)
                clear BK420
                clear BK421
                clear HB
                have BK420 := n0_
                have BK421 := n1_
                have HB := n2_
                clear n0_ n1_ n2_
                refine start_ (n := 13) (S := fun w' => w'.cell? ⟨gb420, 0, none⟩ = some (.bool a0_0) ∧ w'.cell? ⟨gb420, 1, none⟩ = some (.int .i64 a0_1) ∧ w'.cell? ⟨gb420, 2, none⟩ = some (.int .i64 a0_2) ∧ w'.cell? ⟨gb420, 3, none⟩ = some (.int .i64 a0_3) ∧ w'.cell? ⟨gb420, 4, none⟩ = some (.int .i64 a0_4) ∧ w'.cell? ⟨gb420, 5, none⟩ = some (.int .i64 a0_5) ∧ w'.cell? ⟨gb420, 6, none⟩ = some (.int .i64 a0_6)) (ds := []) #[false, false, false, false, false, false, false, false, false, false, false, false, false] (by kernel_rfl) rfl rfl ⟨(blk_cell BK420.out 0).trans rfl, (blk_cell BK420.out 1).trans rfl, (blk_cell BK420.out 2).trans rfl, (blk_cell BK420.out 3).trans rfl, (blk_cell BK420.out 4).trans rfl, (blk_cell BK420.out 5).trans rfl, (blk_cell BK420.out 6).trans rfl⟩ (fun hHeld => ?_); refine with_tabW slotmeshtop_TopOnceSilent.tab8 slotmeshtop_TopOnceSilent.bits8 (fun HT_ HW_ => ?_)
                generalize w27.drew = w28 at BK420 BK421 HB hHeld ⊢
                refine pure_ (i := 0) (N := some 56) (v := ?_) (a' := ?_) #[true, false, false, false, false, false, false, false, false, false, false, false, false] rfl rfl (any_of HT_.out (by kernel_rfl)) (fun _ _ _ h => h) (Or.inl ⟨by rfl, ?_⟩) ?_ ?_
                rotate_left
                · intro w'
                  go_simp
                  with_reducible rfl
                rotate_left
                · simp only [Act.put, List.setIfInBounds_toArray, List.set_cons_zero, List.set_cons_succ, i64_w, i32_w]
                  rfl
                refine take_ (i := 1) (N := some 57) (v := ?_) (a' := ?_) #[true, true, false, false, false, false, false, false, false, false, false, false, false] rfl rfl (take_ofW HT_.out HW_.out (by kernel_rfl)) (fun _ _ _ h => h) (Or.inl ⟨by rfl, ?_⟩) hHeld ?_ ?_
                rotate_left
                · rintro w' ⟨s0, s1, s2, s3, s4, s5, s6⟩
                  go_simp
                  with_reducible rfl
                rotate_left
                · simp only [Act.put, List.setIfInBounds_toArray, List.set_cons_zero, List.set_cons_succ, i64_w, i32_w]
                  rfl
                refine pure_ (i := 2) (N := some 58) (v := ?_) (a' := ?_) #[true, true, true, false, false, false, false, false, false, false, false, false, false] rfl rfl (any_of HT_.out (by kernel_rfl)) (fun _ _ _ h => h) (Or.inl ⟨by rfl, ?_⟩) ?_ ?_
                rotate_left
                · intro w'
                  go_simp
                  with_reducible rfl
                rotate_left
                · simp only [Act.put, List.setIfInBounds_toArray, List.set_cons_zero, List.set_cons_succ, i64_w, i32_w]
                  rfl
                refine pure_ (i := 3) (N := some 59) (v := ?_) (a' := ?_) #[true, true, true, true, false, false, false, false, false, false, false, false, false] rfl rfl (any_of HT_.out (by kernel_rfl)) (fun _ _ _ h => h) (Or.inl ⟨by rfl, ?_⟩) ?_ ?_
                rotate_left
                · intro w'
                  go_simp
                  with_reducible rfl
                rotate_left
                · simp only [Act.put, List.setIfInBounds_toArray, List.set_cons_zero, List.set_cons_succ, i64_w, i32_w]
                  rfl
                refine pure_ (i := 5) (N := some 61) (v := ?_) (a' := ?_) #[true, true, true, true, false, true, false, false, false, false, false, false, false] rfl rfl (any_of HT_.out (by kernel_rfl)) (fun _ _ _ h => h) (Or.inl ⟨by rfl, ?_⟩) ?_ ?_
                rotate_left
                · intro w'
                  go_simp
                  with_reducible rfl
                rotate_left
                · simp only [Act.put, List.setIfInBounds_toArray, List.set_cons_zero, List.set_cons_succ, i64_w, i32_w]
                  rfl
                refine pure_ (i := 7) (N := some 63) (v := ?_) (a' := ?_) #[true, true, true, true, false, true, false, true, false, false, false, false, false] rfl rfl (any_of HT_.out (by kernel_rfl)) (fun _ _ _ h => h) (Or.inl ⟨by rfl, ?_⟩) ?_ ?_
                rotate_left
                · intro w'
                  go_simp
                  with_reducible rfl
                rotate_left
                · simp only [Act.put, List.setIfInBounds_toArray, List.set_cons_zero, List.set_cons_succ, i64_w, i32_w]
                  rfl
                refine pure_ (i := 8) (N := some 64) (v := ?_) (a' := ?_) #[true, true, true, true, false, true, false, true, true, false, false, false, false] rfl rfl (any_of HT_.out (by kernel_rfl)) (fun _ _ _ h => h) (Or.inl ⟨by rfl, ?_⟩) ?_ ?_
                rotate_left
                · intro w'
                  go_simp
                  with_reducible rfl
                rotate_left
                · simp only [Act.put, List.setIfInBounds_toArray, List.set_cons_zero, List.set_cons_succ, i64_w, i32_w]
                  rfl
                refine take_ (i := 4) (N := some 60) (v := ?_) (a' := ?_) #[true, true, true, true, true, true, false, true, true, false, false, false, false] rfl rfl (take_ofW HT_.out HW_.out (by kernel_rfl)) (fun _ _ _ h => h) (Or.inl ⟨by rfl, ?_⟩) hHeld ?_ ?_
                rotate_left
                · rintro w' ⟨s0, s1, s2, s3, s4, s5, s6⟩
                  go_simp
                  with_reducible rfl
                rotate_left
                · simp only [Act.put, List.setIfInBounds_toArray, List.set_cons_zero, List.set_cons_succ, i64_w, i32_w]
                  rfl
                refine take_ (i := 9) (N := some 65) (v := ?_) (a' := ?_) #[true, true, true, true, true, true, false, true, true, true, false, false, false] rfl rfl (take_ofW HT_.out HW_.out (by kernel_rfl)) (fun _ _ _ h => h) (Or.inl ⟨by rfl, ?_⟩) hHeld ?_ ?_
                rotate_left
                · rintro w' ⟨s0, s1, s2, s3, s4, s5, s6⟩
                  go_simp
                  with_reducible rfl
                rotate_left
                · simp only [Act.put, List.setIfInBounds_toArray, List.set_cons_zero, List.set_cons_succ, i64_w, i32_w]
                  rfl
                refine one_ (i := 6) (N := some 62) #[true, true, true, true, true, true, true, true, true, true, false, false, false] rfl rfl (one_of HT_.out (by kernel_rfl)) (by decide) (fun K hK => ?_)
                refine goes_ Try.func14 (by kernel_rfl) rfl #[.agg #[.bool a0_0, .int .i64 a0_1, .int .i64 a0_2, .int .i64 a0_3, .int .i64 a0_4, .int .i64 a0_5, .int .i64 a0_6], .int .i64 a2] (by rfl) rfl rfl (by (try simp only [List.map_toArray, List.map_cons, List.map_nil]); first | done | rfl | (simp only [List.length_drop, List.length_take]; rfl)) ?_
                with_reducible refine (slotmeshref10_Own.calls a0_0 a0_1 a0_2 a0_3 a0_4 a0_5 a0_6 a2 t427 _ A19.out).mono ?_
                rintro e w29 ⟨rfl, hb⟩
                refine ⟨_, rfl, ?_⟩
                have n0_ := Aside0.mk (blk_below (g := gb420) (o := .cells #[.bool a0_0, .int .i64 a0_1, .int .i64 a0_2, .int .i64 a0_3, .int .i64 a0_4, .int .i64 a0_5, .int .i64 a0_6] 25 (0, 0)) (by (with_reducible repeat (first | refine blk_drewN ?_ _ | refine blk_drew ?_ | refine blk_alloc ?_ _)); exact BK420.out) hb)
                have n1_ := Aside0.mk (blk_below (g := gb421) (o := .cells #[.int .i64 a1_0, .int .i64 a1_1] 27 (0, 0)) (by (with_reducible repeat (first | refine blk_drewN ?_ _ | refine blk_drew ?_ | refine blk_alloc ?_ _)); exact BK421.out) hb)
                have n2_ := Aside0.mk (below_step (by repeat (first | (with_reducible first | exact HB.out | apply below_alloc | apply pw_below_drewN | apply below_drew1 | refine below_set ?_ GE420.out | refine below_set ?_ GE421.out) | exact HB.out)) hb)
                clear BK420
                clear BK421
                clear HB
                have BK420 := n0_
                have BK421 := n1_
                have HB := n2_
                clear n0_ n1_ n2_
                (try clear hb)
                (try clear hb2)
                (try clear hk)
                (try clear hi)
                refine hK.out _ _ ⟨(blk_cell BK420.out 0).trans rfl, (blk_cell BK420.out 1).trans rfl, (blk_cell BK420.out 2).trans rfl, (blk_cell BK420.out 3).trans rfl, (blk_cell BK420.out 4).trans rfl, (blk_cell BK420.out 5).trans rfl, (blk_cell BK420.out 6).trans rfl⟩ (fun hHeld => ?_)
                clear hK K
                refine norm_ (a' := ?_) ?_ ?_
                rotate_left
                · show Act.put _ (some 62) _ = _
                  simp only [Act.put, List.setIfInBounds_toArray, List.set_cons_zero, List.set_cons_succ, i64_w, i32_w]
                  rfl
                refine pure_ (i := 10) (N := some 66) (v := ?_) (a' := ?_) #[true, true, true, true, true, true, true, true, true, true, true, false, false] rfl rfl (any_of HT_.out (by kernel_rfl)) (fun _ _ _ h => h) (Or.inl ⟨by rfl, ?_⟩) ?_ ?_
                rotate_left
                · intro w'
                  go_simp
                  with_reducible rfl
                rotate_left
                · simp only [Act.put, List.setIfInBounds_toArray, List.set_cons_zero, List.set_cons_succ, i64_w, i32_w]
                  rfl
                refine pure_ (i := 11) (N := some 67) (v := ?_) (a' := ?_) #[true, true, true, true, true, true, true, true, true, true, true, true, false] rfl rfl (any_of HT_.out (by kernel_rfl)) (fun _ _ _ h => h) (Or.inl ⟨by rfl, ?_⟩) ?_ ?_
                rotate_left
                · intro w'
                  go_simp
                  with_reducible rfl
                rotate_left
                · simp only [Act.put, List.setIfInBounds_toArray, List.set_cons_zero, List.set_cons_succ, i64_w, i32_w]
                  rfl
                refine pure_ (i := 12) (N := some 14) (v := ?_) (a' := ?_) #[true, true, true, true, true, true, true, true, true, true, true, true, true] rfl rfl (any_of HT_.out (by kernel_rfl)) (fun _ _ _ h => h) (Or.inl ⟨by rfl, ?_⟩) ?_ ?_
                rotate_left
                · intro w'
                  go_simp
                  with_reducible rfl
                rotate_left
                · simp only [Act.put, List.setIfInBounds_toArray, List.set_cons_zero, List.set_cons_succ, i64_w, i32_w]
                  rfl
                refine done_ (done_of HT_.out (by kernel_rfl)) ?_
                try go_wp2
                go_ret
                exact ⟨by first | rfl | (simp [errW_none, errW_some] <;> rfl) | (simp [*, errW_none, errW_some] <;> rfl), by repeat (first | (with_reducible first | exact HB.out | apply below_alloc | apply pw_below_drewN | apply below_drew1 | refine below_set ?_ GE420.out | refine below_set ?_ GE421.out) | exact HB.out)⟩
            · rw [if_neg c18] at H
              have c18b0 : decide (0 < a0_4) = false := decide_eq_false c18
              clear c18
              by_cases c30 : t426 = 0
              · rw [if_pos c30] at H
                exact absurd H (by simp)
              · rw [if_neg c30] at H
                have c30b0 : (t426 == 0) = false := beq_eq_false_iff_ne.mpr c30
                have c30b1 : (t426 != 0) = true := bne_iff_ne.mpr c30
                obtain rfl := Option.some.inj H
                have hnb31 := NB420_421.out
                have hnc31 := NB421_420.out
                have hcz32_0 : wc.cell? ⟨gb420, 0, none⟩ = some (.bool a0_0) := (blk_cell BK420.out 0).trans rfl
                have hcz32_1 : wc.cell? ⟨gb420, 1, none⟩ = some (.int .i64 a0_1) := (blk_cell BK420.out 1).trans rfl
                have hcz32_2 : wc.cell? ⟨gb420, 2, none⟩ = some (.int .i64 a0_2) := (blk_cell BK420.out 2).trans rfl
                have hcz32_3 : wc.cell? ⟨gb420, 3, none⟩ = some (.int .i64 a0_3) := (blk_cell BK420.out 3).trans rfl
                have hcz32_4 : wc.cell? ⟨gb420, 4, none⟩ = some (.int .i64 a0_4) := (blk_cell BK420.out 4).trans rfl
                have hcz32_5 : wc.cell? ⟨gb420, 5, none⟩ = some (.int .i64 a0_5) := (blk_cell BK420.out 5).trans rfl
                have hcz32_6 : wc.cell? ⟨gb420, 6, none⟩ = some (.int .i64 a0_6) := (blk_cell BK420.out 6).trans rfl
                have hfz32_0 := blk_frozen BK420.out 0
                have hfz32_1 := blk_frozen BK420.out 1
                have hfz32_2 := blk_frozen BK420.out 2
                have hfz32_3 := blk_frozen BK420.out 3
                have hfz32_4 := blk_frozen BK420.out 4
                have hfz32_5 := blk_frozen BK420.out 5
                have hfz32_6 := blk_frozen BK420.out 6
                have hcz33_0 : wc.cell? ⟨gb421, 0, none⟩ = some (.int .i64 a1_0) := (blk_cell BK421.out 0).trans rfl
                have hcz33_1 : wc.cell? ⟨gb421, 1, none⟩ = some (.int .i64 a1_1) := (blk_cell BK421.out 1).trans rfl
                have hfz33_0 := blk_frozen BK421.out 0
                have hfz33_1 := blk_frozen BK421.out 1
                try go_wp2_with (first | ((with_reducible refine gate_callee (f := 13) rfl ?_); refine goesL_ (some 37) rfl rfl Try.func13 (by kernel_rfl) rfl #[.agg #[.bool a0_0, .int .i64 a0_1, .int .i64 a0_2, .int .i64 a0_3, .int .i64 a0_4, .int .i64 a0_5, .int .i64 a0_6], .agg #[.int .i64 a1_0, .int .i64 a1_1], .int .i64 a2] rfl (by (try simp only [List.map_toArray, List.map_cons, List.map_nil]); first | done | rfl | (simp only [List.length_drop, List.length_take]; rfl)) ?_; (with_reducible refine (guard_Send.calls kj5 a0_0 a0_1 a0_2 a0_3 a0_4 a0_5 a0_6 a1_0 a1_1 a2 t423 t424 _ A14.out).mono ?_); rintro e w34 ⟨rfl, hb⟩; refine ⟨_, rfl, ?_⟩; have n0_ := Aside0.mk (blk_below (g := gb420) (o := .cells #[.bool a0_0, .int .i64 a0_1, .int .i64 a0_2, .int .i64 a0_3, .int .i64 a0_4, .int .i64 a0_5, .int .i64 a0_6] 25 (0, 0)) (by (with_reducible repeat (first | refine blk_drewN ?_ _ | refine blk_drew ?_ | refine blk_alloc ?_ _)); exact BK420.out) hb); have n1_ := Aside0.mk (blk_below (g := gb421) (o := .cells #[.int .i64 a1_0, .int .i64 a1_1] 27 (0, 0)) (by (with_reducible repeat (first | refine blk_drewN ?_ _ | refine blk_drew ?_ | refine blk_alloc ?_ _)); exact BK421.out) hb); have n2_ := Aside0.mk (below_step (by repeat (first | (with_reducible first | exact HB.out | apply below_alloc | apply pw_below_drewN | apply below_drew1 | refine below_set ?_ GE420.out | refine below_set ?_ GE421.out) | exact HB.out)) hb); clear BK420; clear BK421; clear HB; have BK420 := n0_; have BK421 := n1_; have HB := n2_; clear n0_ n1_ n2_; (try clear hb); (try clear hb2); (try clear hk); (try clear hi); have hcz35_0 : w34.cell? ⟨gb420, 0, none⟩ = some (.bool a0_0) := (blk_cell BK420.out 0).trans rfl; have hcz35_1 : w34.cell? ⟨gb420, 1, none⟩ = some (.int .i64 a0_1) := (blk_cell BK420.out 1).trans rfl; have hcz35_2 : w34.cell? ⟨gb420, 2, none⟩ = some (.int .i64 a0_2) := (blk_cell BK420.out 2).trans rfl; have hcz35_3 : w34.cell? ⟨gb420, 3, none⟩ = some (.int .i64 a0_3) := (blk_cell BK420.out 3).trans rfl; have hcz35_4 : w34.cell? ⟨gb420, 4, none⟩ = some (.int .i64 a0_4) := (blk_cell BK420.out 4).trans rfl; have hcz35_5 : w34.cell? ⟨gb420, 5, none⟩ = some (.int .i64 a0_5) := (blk_cell BK420.out 5).trans rfl; have hcz35_6 : w34.cell? ⟨gb420, 6, none⟩ = some (.int .i64 a0_6) := (blk_cell BK420.out 6).trans rfl; have hfz35_0 := blk_frozen BK420.out 0; have hfz35_1 := blk_frozen BK420.out 1; have hfz35_2 := blk_frozen BK420.out 2; have hfz35_3 := blk_frozen BK420.out 3; have hfz35_4 := blk_frozen BK420.out 4; have hfz35_5 := blk_frozen BK420.out 5; have hfz35_6 := blk_frozen BK420.out 6; have hcz36_0 : w34.cell? ⟨gb421, 0, none⟩ = some (.int .i64 a1_0) := (blk_cell BK421.out 0).trans rfl; have hcz36_1 : w34.cell? ⟨gb421, 1, none⟩ = some (.int .i64 a1_1) := (blk_cell BK421.out 1).trans rfl; have hfz36_0 := blk_frozen BK421.out 0; have hfz36_1 := blk_frozen BK421.out 1) | ((with_reducible refine gate_callee (f := 13) rfl ?_); refine goesL_ (some 46) rfl rfl Try.func13 (by kernel_rfl) rfl #[.agg #[.bool a0_0, .int .i64 a0_1, .int .i64 a0_2, .int .i64 a0_3, .int .i64 a0_4, .int .i64 a0_5, .int .i64 a0_6], .agg #[.int .i64 a1_0, .int .i64 a1_1], .int .i64 (wrap64 (a2 + a3))] rfl (by (try simp only [List.map_toArray, List.map_cons, List.map_nil]); first | done | rfl | (simp only [List.length_drop, List.length_take]; rfl)) ?_; (with_reducible refine (guard_Send.calls kj5 a0_0 a0_1 a0_2 a0_3 a0_4 a0_5 a0_6 a1_0 a1_1 (wrap64 (a2 + a3)) t425 t426 _ A15.out).mono ?_); rintro e w37 ⟨rfl, hb⟩; refine ⟨_, rfl, ?_⟩; have n0_ := Aside0.mk (blk_below (g := gb420) (o := .cells #[.bool a0_0, .int .i64 a0_1, .int .i64 a0_2, .int .i64 a0_3, .int .i64 a0_4, .int .i64 a0_5, .int .i64 a0_6] 25 (0, 0)) (by (with_reducible repeat (first | refine blk_drewN ?_ _ | refine blk_drew ?_ | refine blk_alloc ?_ _)); exact BK420.out) hb); have n1_ := Aside0.mk (blk_below (g := gb421) (o := .cells #[.int .i64 a1_0, .int .i64 a1_1] 27 (0, 0)) (by (with_reducible repeat (first | refine blk_drewN ?_ _ | refine blk_drew ?_ | refine blk_alloc ?_ _)); exact BK421.out) hb); have n2_ := Aside0.mk (below_step (by repeat (first | (with_reducible first | exact HB.out | apply below_alloc | apply pw_below_drewN | apply below_drew1 | refine below_set ?_ GE420.out | refine below_set ?_ GE421.out) | exact HB.out)) hb); clear BK420; clear BK421; clear HB; have BK420 := n0_; have BK421 := n1_; have HB := n2_; clear n0_ n1_ n2_; (try clear hb); (try clear hb2); (try clear hk); (try clear hi)))
                have n0_ := Aside0.mk (blk_drew BK420.out)
                have n1_ := Aside0.mk (blk_drew BK421.out)
                have n2_ := Aside0.mk (below_drew1 HB.out)
                clear BK420
                clear BK421
                clear HB
                have BK420 := n0_
                have BK421 := n1_
                have HB := n2_
                clear n0_ n1_ n2_
                refine start_ (n := 13) (S := fun w' => w'.cell? ⟨gb420, 0, none⟩ = some (.bool a0_0) ∧ w'.cell? ⟨gb420, 1, none⟩ = some (.int .i64 a0_1) ∧ w'.cell? ⟨gb420, 2, none⟩ = some (.int .i64 a0_2) ∧ w'.cell? ⟨gb420, 3, none⟩ = some (.int .i64 a0_3) ∧ w'.cell? ⟨gb420, 4, none⟩ = some (.int .i64 a0_4) ∧ w'.cell? ⟨gb420, 5, none⟩ = some (.int .i64 a0_5) ∧ w'.cell? ⟨gb420, 6, none⟩ = some (.int .i64 a0_6)) (ds := []) #[false, false, false, false, false, false, false, false, false, false, false, false, false] (by kernel_rfl) rfl rfl ⟨(blk_cell BK420.out 0).trans rfl, (blk_cell BK420.out 1).trans rfl, (blk_cell BK420.out 2).trans rfl, (blk_cell BK420.out 3).trans rfl, (blk_cell BK420.out 4).trans rfl, (blk_cell BK420.out 5).trans rfl, (blk_cell BK420.out 6).trans rfl⟩ (fun hHeld => ?_); refine with_tabW slotmeshtop_TopOnceSilent.tab8 slotmeshtop_TopOnceSilent.bits8 (fun HT_ HW_ => ?_)
                generalize w37.drew = w38 at BK420 BK421 HB hHeld ⊢
                refine pure_ (i := 0) (N := some 56) (v := ?_) (a' := ?_) #[true, false, false, false, false, false, false, false, false, false, false, false, false] rfl rfl (any_of HT_.out (by kernel_rfl)) (fun _ _ _ h => h) (Or.inl ⟨by rfl, ?_⟩) ?_ ?_
                rotate_left
                · intro w'
                  go_simp
                  with_reducible rfl
                rotate_left
                · simp only [Act.put, List.setIfInBounds_toArray, List.set_cons_zero, List.set_cons_succ, i64_w, i32_w]
                  rfl
                refine take_ (i := 1) (N := some 57) (v := ?_) (a' := ?_) #[true, true, false, false, false, false, false, false, false, false, false, false, false] rfl rfl (take_ofW HT_.out HW_.out (by kernel_rfl)) (fun _ _ _ h => h) (Or.inl ⟨by rfl, ?_⟩) hHeld ?_ ?_
                rotate_left
                · rintro w' ⟨s0, s1, s2, s3, s4, s5, s6⟩
                  go_simp
                  with_reducible rfl
                rotate_left
                · simp only [Act.put, List.setIfInBounds_toArray, List.set_cons_zero, List.set_cons_succ, i64_w, i32_w]
                  rfl
                refine pure_ (i := 2) (N := some 58) (v := ?_) (a' := ?_) #[true, true, true, false, false, false, false, false, false, false, false, false, false] rfl rfl (any_of HT_.out (by kernel_rfl)) (fun _ _ _ h => h) (Or.inl ⟨by rfl, ?_⟩) ?_ ?_
                rotate_left
                · intro w'
                  go_simp
                  with_reducible rfl
                rotate_left
                · simp only [Act.put, List.setIfInBounds_toArray, List.set_cons_zero, List.set_cons_succ, i64_w, i32_w]
                  rfl
                refine pure_ (i := 3) (N := some 59) (v := ?_) (a' := ?_) #[true, true, true, true, false, false, false, false, false, false, false, false, false] rfl rfl (any_of HT_.out (by kernel_rfl)) (fun _ _ _ h => h) (Or.inl ⟨by rfl, ?_⟩) ?_ ?_
                rotate_left
                · intro w'
                  go_simp
                  with_reducible rfl
                rotate_left
                · simp only [Act.put, List.setIfInBounds_toArray, List.set_cons_zero, List.set_cons_succ, i64_w, i32_w]
                  rfl
                refine pure_ (i := 4) (N := some 60) (v := undef) (a' := ?_) #[true, true, true, true, true, false, false, false, false, false, false, false, false] rfl rfl (any_of HT_.out (by kernel_rfl)) (fun _ _ _ h => h) (Or.inr ⟨by rfl, rfl⟩) ?_ ?_
                rotate_left
                · simp only [Act.put, List.setIfInBounds_toArray, List.set_cons_zero, List.set_cons_succ, i64_w, i32_w]
                  rfl
                refine pure_ (i := 5) (N := some 61) (v := undef) (a' := ?_) #[true, true, true, true, true, true, false, false, false, false, false, false, false] rfl rfl (any_of HT_.out (by kernel_rfl)) (fun _ _ _ h => h) (Or.inr ⟨by rfl, rfl⟩) ?_ ?_
                rotate_left
                · simp only [Act.put, List.setIfInBounds_toArray, List.set_cons_zero, List.set_cons_succ, i64_w, i32_w]
                  rfl
                refine pure_ (i := 6) (N := some 62) (v := undef) (a' := ?_) #[true, true, true, true, true, true, true, false, false, false, false, false, false] rfl rfl (any_of HT_.out (by kernel_rfl)) (fun _ _ _ h => h) (Or.inr ⟨by rfl, rfl⟩) ?_ ?_
                rotate_left
                · simp only [Act.put, List.setIfInBounds_toArray, List.set_cons_zero, List.set_cons_succ, i64_w, i32_w]
                  rfl
                refine pure_ (i := 7) (N := some 63) (v := undef) (a' := ?_) #[true, true, true, true, true, true, true, true, false, false, false, false, false] rfl rfl (any_of HT_.out (by kernel_rfl)) (fun _ _ _ h => h) (Or.inr ⟨by rfl, rfl⟩) ?_ ?_
                rotate_left
                · simp only [Act.put, List.setIfInBounds_toArray, List.set_cons_zero, List.set_cons_succ, i64_w, i32_w]
                  rfl
                refine pure_ (i := 8) (N := some 64) (v := undef) (a' := ?_) #[true, true, true, true, true, true, true, true, true, false, false, false, false] rfl rfl (any_of HT_.out (by kernel_rfl)) (fun _ _ _ h => h) (Or.inr ⟨by rfl, rfl⟩) ?_ ?_
                rotate_left
                · simp only [Act.put, List.setIfInBounds_toArray, List.set_cons_zero, List.set_cons_succ, i64_w, i32_w]
                  rfl
                refine pure_ (i := 9) (N := some 65) (v := undef) (a' := ?_) #[true, true, true, true, true, true, true, true, true, true, false, false, false] rfl rfl (any_of HT_.out (by kernel_rfl)) (fun _ _ _ h => h) (Or.inr ⟨by rfl, rfl⟩) ?_ ?_
                rotate_left
                · simp only [Act.put, List.setIfInBounds_toArray, List.set_cons_zero, List.set_cons_succ, i64_w, i32_w]
                  rfl
                refine pure_ (i := 10) (N := some 66) (v := undef) (a' := ?_) #[true, true, true, true, true, true, true, true, true, true, true, false, false] rfl rfl (any_of HT_.out (by kernel_rfl)) (fun _ _ _ h => h) (Or.inr ⟨by rfl, rfl⟩) ?_ ?_
                rotate_left
                · simp only [Act.put, List.setIfInBounds_toArray, List.set_cons_zero, List.set_cons_succ, i64_w, i32_w]
                  rfl
                refine pure_ (i := 11) (N := some 67) (v := ?_) (a' := ?_) #[true, true, true, true, true, true, true, true, true, true, true, true, false] rfl rfl (any_of HT_.out (by kernel_rfl)) (fun _ _ _ h => h) (Or.inl ⟨by rfl, ?_⟩) ?_ ?_
                rotate_left
                · intro w'
                  go_simp
                  with_reducible rfl
                rotate_left
                · simp only [Act.put, List.setIfInBounds_toArray, List.set_cons_zero, List.set_cons_succ, i64_w, i32_w]
                  rfl
                refine pure_ (i := 12) (N := some 14) (v := ?_) (a' := ?_) #[true, true, true, true, true, true, true, true, true, true, true, true, true] rfl rfl (any_of HT_.out (by kernel_rfl)) (fun _ _ _ h => h) (Or.inl ⟨by rfl, ?_⟩) ?_ ?_
                rotate_left
                · intro w'
                  go_simp
                  with_reducible rfl
                rotate_left
                · simp only [Act.put, List.setIfInBounds_toArray, List.set_cons_zero, List.set_cons_succ, i64_w, i32_w]
                  rfl
                refine done_ (done_of HT_.out (by kernel_rfl)) ?_
                try go_wp2
                go_ret
                exact ⟨by first | rfl | (simp [errW_none, errW_some] <;> rfl) | (simp [*, errW_none, errW_some] <;> rfl), by repeat (first | (with_reducible first | exact HB.out | apply below_alloc | apply pw_below_drewN | apply below_drew1 | refine below_set ?_ GE420.out | refine below_set ?_ GE421.out) | exact HB.out)⟩
          · replace c17 := Bool.eq_false_iff.mpr c17
            subst c17
            have H1 : (if a0_4 > 0 then ((slotmeshref10_Own.f a0_0 a0_1 a0_2 a0_3 a0_4 a0_5 a0_6 a2).bind fun t428 => (none)) else (none)) = some r := by rw [if_neg (show ¬ (false = true) by decide)] at H; exact H
            clear H
            have H := H1
            clear H1
            by_cases c39 : a0_4 > 0
            · rw [if_pos c39] at H
              have c39b0 : decide (0 < a0_4) = true := decide_eq_true c39
              clear c39
              replace H := Option.bind_eq_some_iff.mp H
              obtain ⟨t428, A400, H⟩ := H
              replace H : (none) = some r := H
              have A40 := Aside0.mk A400
              clear A400
              exact absurd H (by simp)
            · rw [if_neg c39] at H
              have c39b0 : decide (0 < a0_4) = false := decide_eq_false c39
              clear c39
              exact absurd H (by simp)
        · rw [if_neg c16] at H
          have c16b0 : (t424 == 16) = false := beq_eq_false_iff_ne.mpr c16
          have c16b1 : (t424 != 16) = true := bne_iff_ne.mpr c16
          by_cases c41 : a0_4 > 0
          · rw [if_pos c41] at H
            have c41b0 : decide (0 < a0_4) = true := decide_eq_true c41
            clear c41
            replace H := Option.bind_eq_some_iff.mp H
            obtain ⟨t429, A420, H⟩ := H
            replace H : (if t422 = true then (if t426 = 0 then (if t429 < a0_3 then (some true) else (some (t424 == 0))) else (some true)) else (none)) = some r := H
            have A42 := Aside0.mk A420
            clear A420
            by_cases c43 : t422 = true
            · subst c43
              have H1 : (if t426 = 0 then (if t429 < a0_3 then (some true) else (some (t424 == 0))) else (some true)) = some r := by rw [if_pos rfl] at H; exact H
              clear H
              have H := H1
              clear H1
              by_cases c44 : t426 = 0
              · rw [if_pos c44] at H
                have c44b0 : (t426 == 0) = true := beq_iff_eq.mpr c44
                have c44b1 : (t426 != 0) = false := bne_eq_false_iff_eq.mpr c44
                clear c44
                by_cases c45 : t429 < a0_3
                · rw [if_pos c45] at H
                  have c45b0 : decide (t429 < a0_3) = true := decide_eq_true c45
                  clear c45
                  obtain rfl := Option.some.inj H
                  have hnb46 := NB420_421.out
                  have hnc46 := NB421_420.out
                  have hcz47_0 : wc.cell? ⟨gb420, 0, none⟩ = some (.bool a0_0) := (blk_cell BK420.out 0).trans rfl
                  have hcz47_1 : wc.cell? ⟨gb420, 1, none⟩ = some (.int .i64 a0_1) := (blk_cell BK420.out 1).trans rfl
                  have hcz47_2 : wc.cell? ⟨gb420, 2, none⟩ = some (.int .i64 a0_2) := (blk_cell BK420.out 2).trans rfl
                  have hcz47_3 : wc.cell? ⟨gb420, 3, none⟩ = some (.int .i64 a0_3) := (blk_cell BK420.out 3).trans rfl
                  have hcz47_4 : wc.cell? ⟨gb420, 4, none⟩ = some (.int .i64 a0_4) := (blk_cell BK420.out 4).trans rfl
                  have hcz47_5 : wc.cell? ⟨gb420, 5, none⟩ = some (.int .i64 a0_5) := (blk_cell BK420.out 5).trans rfl
                  have hcz47_6 : wc.cell? ⟨gb420, 6, none⟩ = some (.int .i64 a0_6) := (blk_cell BK420.out 6).trans rfl
                  have hfz47_0 := blk_frozen BK420.out 0
                  have hfz47_1 := blk_frozen BK420.out 1
                  have hfz47_2 := blk_frozen BK420.out 2
                  have hfz47_3 := blk_frozen BK420.out 3
                  have hfz47_4 := blk_frozen BK420.out 4
                  have hfz47_5 := blk_frozen BK420.out 5
                  have hfz47_6 := blk_frozen BK420.out 6
                  have hcz48_0 : wc.cell? ⟨gb421, 0, none⟩ = some (.int .i64 a1_0) := (blk_cell BK421.out 0).trans rfl
                  have hcz48_1 : wc.cell? ⟨gb421, 1, none⟩ = some (.int .i64 a1_1) := (blk_cell BK421.out 1).trans rfl
                  have hfz48_0 := blk_frozen BK421.out 0
                  have hfz48_1 := blk_frozen BK421.out 1
                  try go_wp2_with (first | ((with_reducible refine gate_callee (f := 13) rfl ?_); refine goesL_ (some 37) rfl rfl Try.func13 (by kernel_rfl) rfl #[.agg #[.bool a0_0, .int .i64 a0_1, .int .i64 a0_2, .int .i64 a0_3, .int .i64 a0_4, .int .i64 a0_5, .int .i64 a0_6], .agg #[.int .i64 a1_0, .int .i64 a1_1], .int .i64 a2] rfl (by (try simp only [List.map_toArray, List.map_cons, List.map_nil]); first | done | rfl | (simp only [List.length_drop, List.length_take]; rfl)) ?_; (with_reducible refine (guard_Send.calls kj5 a0_0 a0_1 a0_2 a0_3 a0_4 a0_5 a0_6 a1_0 a1_1 a2 t423 t424 _ A14.out).mono ?_); rintro e w49 ⟨rfl, hb⟩; refine ⟨_, rfl, ?_⟩; have n0_ := Aside0.mk (blk_below (g := gb420) (o := .cells #[.bool a0_0, .int .i64 a0_1, .int .i64 a0_2, .int .i64 a0_3, .int .i64 a0_4, .int .i64 a0_5, .int .i64 a0_6] 25 (0, 0)) (by (with_reducible repeat (first | refine blk_drewN ?_ _ | refine blk_drew ?_ | refine blk_alloc ?_ _)); exact BK420.out) hb); have n1_ := Aside0.mk (blk_below (g := gb421) (o := .cells #[.int .i64 a1_0, .int .i64 a1_1] 27 (0, 0)) (by (with_reducible repeat (first | refine blk_drewN ?_ _ | refine blk_drew ?_ | refine blk_alloc ?_ _)); exact BK421.out) hb); have n2_ := Aside0.mk (below_step (by repeat (first | (with_reducible first | exact HB.out | apply below_alloc | apply pw_below_drewN | apply below_drew1 | refine below_set ?_ GE420.out | refine below_set ?_ GE421.out) | exact HB.out)) hb); clear BK420; clear BK421; clear HB; have BK420 := n0_; have BK421 := n1_; have HB := n2_; clear n0_ n1_ n2_; (try clear hb); (try clear hb2); (try clear hk); (try clear hi); have hcz50_0 : w49.cell? ⟨gb420, 0, none⟩ = some (.bool a0_0) := (blk_cell BK420.out 0).trans rfl; have hcz50_1 : w49.cell? ⟨gb420, 1, none⟩ = some (.int .i64 a0_1) := (blk_cell BK420.out 1).trans rfl; have hcz50_2 : w49.cell? ⟨gb420, 2, none⟩ = some (.int .i64 a0_2) := (blk_cell BK420.out 2).trans rfl; have hcz50_3 : w49.cell? ⟨gb420, 3, none⟩ = some (.int .i64 a0_3) := (blk_cell BK420.out 3).trans rfl; have hcz50_4 : w49.cell? ⟨gb420, 4, none⟩ = some (.int .i64 a0_4) := (blk_cell BK420.out 4).trans rfl; have hcz50_5 : w49.cell? ⟨gb420, 5, none⟩ = some (.int .i64 a0_5) := (blk_cell BK420.out 5).trans rfl; have hcz50_6 : w49.cell? ⟨gb420, 6, none⟩ = some (.int .i64 a0_6) := (blk_cell BK420.out 6).trans rfl; have hfz50_0 := blk_frozen BK420.out 0; have hfz50_1 := blk_frozen BK420.out 1; have hfz50_2 := blk_frozen BK420.out 2; have hfz50_3 := blk_frozen BK420.out 3; have hfz50_4 := blk_frozen BK420.out 4; have hfz50_5 := blk_frozen BK420.out 5; have hfz50_6 := blk_frozen BK420.out 6; have hcz51_0 : w49.cell? ⟨gb421, 0, none⟩ = some (.int .i64 a1_0) := (blk_cell BK421.out 0).trans rfl; have hcz51_1 : w49.cell? ⟨gb421, 1, none⟩ = some (.int .i64 a1_1) := (blk_cell BK421.out 1).trans rfl; have hfz51_0 := blk_frozen BK421.out 0; have hfz51_1 := blk_frozen BK421.out 1) | ((with_reducible refine gate_callee (f := 13) rfl ?_); refine goesL_ (some 46) rfl rfl Try.func13 (by kernel_rfl) rfl #[.agg #[.bool a0_0, .int .i64 a0_1, .int .i64 a0_2, .int .i64 a0_3, .int .i64 a0_4, .int .i64 a0_5, .int .i64 a0_6], .agg #[.int .i64 a1_0, .int .i64 a1_1], .int .i64 (wrap64 (a2 + a3))] rfl (by (try simp only [List.map_toArray, List.map_cons, List.map_nil]); first | done | rfl | (simp only [List.length_drop, List.length_take]; rfl)) ?_; (with_reducible refine (guard_Send.calls kj5 a0_0 a0_1 a0_2 a0_3 a0_4 a0_5 a0_6 a1_0 a1_1 (wrap64 (a2 + a3)) t425 t426 _ A15.out).mono ?_); rintro e w52 ⟨rfl, hb⟩; refine ⟨_, rfl, ?_⟩; have n0_ := Aside0.mk (blk_below (g := gb420) (o := .cells #[.bool a0_0, .int .i64 a0_1, .int .i64 a0_2, .int .i64 a0_3, .int .i64 a0_4, .int .i64 a0_5, .int .i64 a0_6] 25 (0, 0)) (by (with_reducible repeat (first | refine blk_drewN ?_ _ | refine blk_drew ?_ | refine blk_alloc ?_ _)); exact BK420.out) hb); have n1_ := Aside0.mk (blk_below (g := gb421) (o := .cells #[.int .i64 a1_0, .int .i64 a1_1] 27 (0, 0)) (by (with_reducible repeat (first | refine blk_drewN ?_ _ | refine blk_drew ?_ | refine blk_alloc ?_ _)); exact BK421.out) hb); have n2_ := Aside0.mk (below_step (by repeat (first | (with_reducible first | exact HB.out | apply below_alloc | apply pw_below_drewN | apply below_drew1 | refine below_set ?_ GE420.out | refine below_set ?_ GE421.out) | exact HB.out)) hb); clear BK420; clear BK421; clear HB; have BK420 := n0_; have BK421 := n1_; have HB := n2_; clear n0_ n1_ n2_; (try clear hb); (try clear hb2); (try clear hk); (try clear hi)))
                  have n0_ := Aside0.mk (blk_drew BK420.out)
                  have n1_ := Aside0.mk (blk_drew BK421.out)
                  have n2_ := Aside0.mk (below_drew1 HB.out)
                  clear BK420
                  clear BK421
                  clear HB
                  have BK420 := n0_
                  have BK421 := n1_
                  have HB := n2_
                  clear n0_ n1_ n2_
                  refine start_ (n := 13) (S := fun w' => w'.cell? ⟨gb420, 0, none⟩ = some (.bool a0_0) ∧ w'.cell? ⟨gb420, 1, none⟩ = some (.int .i64 a0_1) ∧ w'.cell? ⟨gb420, 2, none⟩ = some (.int .i64 a0_2) ∧ w'.cell? ⟨gb420, 3, none⟩ = some (.int .i64 a0_3) ∧ w'.cell? ⟨gb420, 4, none⟩ = some (.int .i64 a0_4) ∧ w'.cell? ⟨gb420, 5, none⟩ = some (.int .i64 a0_5) ∧ w'.cell? ⟨gb420, 6, none⟩ = some (.int .i64 a0_6)) (ds := []) #[false, false, false, false, false, false, false, false, false, false, false, false, false] (by kernel_rfl) rfl rfl ⟨(blk_cell BK420.out 0).trans rfl, (blk_cell BK420.out 1).trans rfl, (blk_cell BK420.out 2).trans rfl, (blk_cell BK420.out 3).trans rfl, (blk_cell BK420.out 4).trans rfl, (blk_cell BK420.out 5).trans rfl, (blk_cell BK420.out 6).trans rfl⟩ (fun hHeld => ?_); refine with_tabW slotmeshtop_TopOnceSilent.tab8 slotmeshtop_TopOnceSilent.bits8 (fun HT_ HW_ => ?_)
                  generalize w52.drew = w53 at BK420 BK421 HB hHeld ⊢
                  refine pure_ (i := 0) (N := some 56) (v := ?_) (a' := ?_) #[true, false, false, false, false, false, false, false, false, false, false, false, false] rfl rfl (any_of HT_.out (by kernel_rfl)) (fun _ _ _ h => h) (Or.inl ⟨by rfl, ?_⟩) ?_ ?_
                  rotate_left
                  · intro w'
                    go_simp
                    with_reducible rfl
                  rotate_left
                  · simp only [Act.put, List.setIfInBounds_toArray, List.set_cons_zero, List.set_cons_succ, i64_w, i32_w]
                    rfl
                  refine take_ (i := 1) (N := some 57) (v := ?_) (a' := ?_) #[true, true, false, false, false, false, false, false, false, false, false, false, false] rfl rfl (take_ofW HT_.out HW_.out (by kernel_rfl)) (fun _ _ _ h => h) (Or.inl ⟨by rfl, ?_⟩) hHeld ?_ ?_
                  rotate_left
                  · rintro w' ⟨s0, s1, s2, s3, s4, s5, s6⟩
                    go_simp
                    with_reducible rfl
                  rotate_left
                  · simp only [Act.put, List.setIfInBounds_toArray, List.set_cons_zero, List.set_cons_succ, i64_w, i32_w]
                    rfl
                  refine pure_ (i := 2) (N := some 58) (v := ?_) (a' := ?_) #[true, true, true, false, false, false, false, false, false, false, false, false, false] rfl rfl (any_of HT_.out (by kernel_rfl)) (fun _ _ _ h => h) (Or.inl ⟨by rfl, ?_⟩) ?_ ?_
                  rotate_left
                  · intro w'
                    go_simp
                    with_reducible rfl
                  rotate_left
                  · simp only [Act.put, List.setIfInBounds_toArray, List.set_cons_zero, List.set_cons_succ, i64_w, i32_w]
                    rfl
                  refine pure_ (i := 3) (N := some 59) (v := ?_) (a' := ?_) #[true, true, true, true, false, false, false, false, false, false, false, false, false] rfl rfl (any_of HT_.out (by kernel_rfl)) (fun _ _ _ h => h) (Or.inl ⟨by rfl, ?_⟩) ?_ ?_
                  rotate_left
                  · intro w'
                    go_simp
                    with_reducible rfl
                  rotate_left
                  · simp only [Act.put, List.setIfInBounds_toArray, List.set_cons_zero, List.set_cons_succ, i64_w, i32_w]
                    rfl
                  refine pure_ (i := 5) (N := some 61) (v := ?_) (a' := ?_) #[true, true, true, true, false, true, false, false, false, false, false, false, false] rfl rfl (any_of HT_.out (by kernel_rfl)) (fun _ _ _ h => h) (Or.inl ⟨by rfl, ?_⟩) ?_ ?_
                  rotate_left
                  · intro w'
                    go_simp
                    with_reducible rfl
                  rotate_left
                  · simp only [Act.put, List.setIfInBounds_toArray, List.set_cons_zero, List.set_cons_succ, i64_w, i32_w]
                    rfl
                  refine pure_ (i := 7) (N := some 63) (v := ?_) (a' := ?_) #[true, true, true, true, false, true, false, true, false, false, false, false, false] rfl rfl (any_of HT_.out (by kernel_rfl)) (fun _ _ _ h => h) (Or.inl ⟨by rfl, ?_⟩) ?_ ?_
                  rotate_left
                  · intro w'
                    go_simp
                    with_reducible rfl
                  rotate_left
                  · simp only [Act.put, List.setIfInBounds_toArray, List.set_cons_zero, List.set_cons_succ, i64_w, i32_w]
                    rfl
                  refine pure_ (i := 8) (N := some 64) (v := ?_) (a' := ?_) #[true, true, true, true, false, true, false, true, true, false, false, false, false] rfl rfl (any_of HT_.out (by kernel_rfl)) (fun _ _ _ h => h) (Or.inl ⟨by rfl, ?_⟩) ?_ ?_
                  rotate_left
                  · intro w'
                    go_simp
                    with_reducible rfl
                  rotate_left
                  · simp only [Act.put, List.setIfInBounds_toArray, List.set_cons_zero, List.set_cons_succ, i64_w, i32_w]
                    rfl
                  refine take_ (i := 4) (N := some 60) (v := ?_) (a' := ?_) #[true, true, true, true, true, true, false, true, true, false, false, false, false] rfl rfl (take_ofW HT_.out HW_.out (by kernel_rfl)) (fun _ _ _ h => h) (Or.inl ⟨by rfl, ?_⟩) hHeld ?_ ?_
                  rotate_left
                  · rintro w' ⟨s0, s1, s2, s3, s4, s5, s6⟩
                    go_simp
                    with_reducible rfl
                  rotate_left
                  · simp only [Act.put, List.setIfInBounds_toArray, List.set_cons_zero, List.set_cons_succ, i64_w, i32_w]
                    rfl
                  refine take_ (i := 9) (N := some 65) (v := ?_) (a' := ?_) #[true, true, true, true, true, true, false, true, true, true, false, false, false] rfl rfl (take_ofW HT_.out HW_.out (by kernel_rfl)) (fun _ _ _ h => h) (Or.inl ⟨by rfl, ?_⟩) hHeld ?_ ?_
                  rotate_left
                  · rintro w' ⟨s0, s1, s2, s3, s4, s5, s6⟩
                    go_simp
                    with_reducible rfl
                  rotate_left
                  · simp only [Act.put, List.setIfInBounds_toArray, List.set_cons_zero, List.set_cons_succ, i64_w, i32_w]
                    rfl
                  refine one_ (i := 6) (N := some 62) #[true, true, true, true, true, true, true, true, true, true, false, false, false] rfl rfl (one_of HT_.out (by kernel_rfl)) (by decide) (fun K hK => ?_)
                  refine goes_ Try.func14 (by kernel_rfl) rfl #[.agg #[.bool a0_0, .int .i64 a0_1, .int .i64 a0_2, .int .i64 a0_3, .int .i64 a0_4, .int .i64 a0_5, .int .i64 a0_6], .int .i64 a2] (by rfl) rfl rfl (by (try simp only [List.map_toArray, List.map_cons, List.map_nil]); first | done | rfl | (simp only [List.length_drop, List.length_take]; rfl)) ?_
                  with_reducible refine (slotmeshref10_Own.calls a0_0 a0_1 a0_2 a0_3 a0_4 a0_5 a0_6 a2 t429 _ A42.out).mono ?_
                  rintro e w54 ⟨rfl, hb⟩
                  refine ⟨_, rfl, ?_⟩
                  have n0_ := Aside0.mk (blk_below (g := gb420) (o := .cells #[.bool a0_0, .int .i64 a0_1, .int .i64 a0_2, .int .i64 a0_3, .int .i64 a0_4, .int .i64 a0_5, .int .i64 a0_6] 25 (0, 0)) (by (with_reducible repeat (first | refine blk_drewN ?_ _ | refine blk_drew ?_ | refine blk_alloc ?_ _)); exact BK420.out) hb)
                  have n1_ := Aside0.mk (blk_below (g := gb421) (o := .cells #[.int .i64 a1_0, .int .i64 a1_1] 27 (0, 0)) (by (with_reducible repeat (first | refine blk_drewN ?_ _ | refine blk_drew ?_ | refine blk_alloc ?_ _)); exact BK421.out) hb)
                  have n2_ := Aside0.mk (below_step (by repeat (first | (with_reducible first | exact HB.out | apply below_alloc | apply pw_below_drewN | apply below_drew1 | refine below_set ?_ GE420.out | refine below_set ?_ GE421.out) | exact HB.out)) hb)
                  clear BK420
                  clear BK421
                  clear HB
                  have BK420 := n0_
                  have BK421 := n1_
                  have HB := n2_
                  clear n0_ n1_ n2_
                  (try clear hb)
                  (try clear hb2)
                  (try clear hk)
                  (try clear hi)
                  refine hK.out _ _ ⟨(blk_cell BK420.out 0).trans rfl, (blk_cell BK420.out 1).trans rfl, (blk_cell BK420.out 2).trans rfl, (blk_cell BK420.out 3).trans rfl, (blk_cell BK420.out 4).trans rfl, (blk_cell BK420.out 5).trans rfl, (blk_cell BK420.out 6).trans rfl⟩ (fun hHeld => ?_)
                  clear hK K
                  refine norm_ (a' := ?_) ?_ ?_
                  rotate_left
                  · show Act.put _ (some 62) _ = _
                    simp only [Act.put, List.setIfInBounds_toArray, List.set_cons_zero, List.set_cons_succ, i64_w, i32_w]
                    rfl
                  refine pure_ (i := 10) (N := some 66) (v := ?_) (a' := ?_) #[true, true, true, true, true, true, true, true, true, true, true, false, false] rfl rfl (any_of HT_.out (by kernel_rfl)) (fun _ _ _ h => h) (Or.inl ⟨by rfl, ?_⟩) ?_ ?_
                  rotate_left
                  · intro w'
                    go_simp
                    with_reducible rfl
                  rotate_left
                  · simp only [Act.put, List.setIfInBounds_toArray, List.set_cons_zero, List.set_cons_succ, i64_w, i32_w]
                    rfl
                  refine pure_ (i := 11) (N := some 67) (v := ?_) (a' := ?_) #[true, true, true, true, true, true, true, true, true, true, true, true, false] rfl rfl (any_of HT_.out (by kernel_rfl)) (fun _ _ _ h => h) (Or.inl ⟨by rfl, ?_⟩) ?_ ?_
                  rotate_left
                  · intro w'
                    go_simp
                    with_reducible rfl
                  rotate_left
                  · simp only [Act.put, List.setIfInBounds_toArray, List.set_cons_zero, List.set_cons_succ, i64_w, i32_w]
                    rfl
                  refine pure_ (i := 12) (N := some 14) (v := ?_) (a' := ?_) #[true, true, true, true, true, true, true, true, true, true, true, true, true] rfl rfl (any_of HT_.out (by kernel_rfl)) (fun _ _ _ h => h) (Or.inl ⟨by rfl, ?_⟩) ?_ ?_
                  rotate_left
                  · intro w'
                    go_simp
                    with_reducible rfl
                  rotate_left
                  · simp only [Act.put, List.setIfInBounds_toArray, List.set_cons_zero, List.set_cons_succ, i64_w, i32_w]
                    rfl
                  refine done_ (done_of HT_.out (by kernel_rfl)) ?_
                  try go_wp2
                  go_ret
                  exact ⟨by first | rfl | (simp [errW_none, errW_some] <;> rfl) | (simp [*, errW_none, errW_some] <;> rfl), by repeat (first | (with_reducible first | exact HB.out | apply below_alloc | apply pw_below_drewN | apply below_drew1 | refine below_set ?_ GE420.out | refine below_set ?_ GE421.out) | exact HB.out)⟩
                · rw [if_neg c45] at H
                  have c45b0 : decide (t429 < a0_3) = false := decide_eq_false c45
                  clear c45
                  obtain rfl := Option.some.inj H
                  have hnb55 := NB420_421.out
                  have hnc55 := NB421_420.out
                  have hcz56_0 : wc.cell? ⟨gb420, 0, none⟩ = some (.bool a0_0) := (blk_cell BK420.out 0).trans rfl
                  have hcz56_1 : wc.cell? ⟨gb420, 1, none⟩ = some (.int .i64 a0_1) := (blk_cell BK420.out 1).trans rfl
                  have hcz56_2 : wc.cell? ⟨gb420, 2, none⟩ = some (.int .i64 a0_2) := (blk_cell BK420.out 2).trans rfl
                  have hcz56_3 : wc.cell? ⟨gb420, 3, none⟩ = some (.int .i64 a0_3) := (blk_cell BK420.out 3).trans rfl
                  have hcz56_4 : wc.cell? ⟨gb420, 4, none⟩ = some (.int .i64 a0_4) := (blk_cell BK420.out 4).trans rfl
                  have hcz56_5 : wc.cell? ⟨gb420, 5, none⟩ = some (.int .i64 a0_5) := (blk_cell BK420.out 5).trans rfl
                  have hcz56_6 : wc.cell? ⟨gb420, 6, none⟩ = some (.int .i64 a0_6) := (blk_cell BK420.out 6).trans rfl
                  have hfz56_0 := blk_frozen BK420.out 0
                  have hfz56_1 := blk_frozen BK420.out 1
                  have hfz56_2 := blk_frozen BK420.out 2
                  have hfz56_3 := blk_frozen BK420.out 3
                  have hfz56_4 := blk_frozen BK420.out 4
                  have hfz56_5 := blk_frozen BK420.out 5
                  have hfz56_6 := blk_frozen BK420.out 6
                  have hcz57_0 : wc.cell? ⟨gb421, 0, none⟩ = some (.int .i64 a1_0) := (blk_cell BK421.out 0).trans rfl
                  have hcz57_1 : wc.cell? ⟨gb421, 1, none⟩ = some (.int .i64 a1_1) := (blk_cell BK421.out 1).trans rfl
                  have hfz57_0 := blk_frozen BK421.out 0
                  have hfz57_1 := blk_frozen BK421.out 1
                  try go_wp2_with (first | ((with_reducible refine gate_callee (f := 13) rfl ?_); refine goesL_ (some 37) rfl rfl Try.func13 (by kernel_rfl) rfl #[.agg #[.bool a0_0, .int .i64 a0_1, .int .i64 a0_2, .int .i64 a0_3, .int .i64 a0_4, .int .i64 a0_5, .int .i64 a0_6], .agg #[.int .i64 a1_0, .int .i64 a1_1], .int .i64 a2] rfl (by (try simp only [List.map_toArray, List.map_cons, List.map_nil]); first | done | rfl | (simp only [List.length_drop, List.length_take]; rfl)) ?_; (with_reducible refine (guard_Send.calls kj5 a0_0 a0_1 a0_2 a0_3 a0_4 a0_5 a0_6 a1_0 a1_1 a2 t423 t424 _ A14.out).mono ?_); rintro e w58 ⟨rfl, hb⟩; refine ⟨_, rfl, ?_⟩; have n0_ := Aside0.mk (blk_below (g := gb420) (o := .cells #[.bool a0_0, .int .i64 a0_1, .int .i64 a0_2, .int .i64 a0_3, .int .i64 a0_4, .int .i64 a0_5, .int .i64 a0_6] 25 (0, 0)) (by (with_reducible repeat (first | refine blk_drewN ?_ _ | refine blk_drew ?_ | refine blk_alloc ?_ _)); exact BK420.out) hb); have n1_ := Aside0.mk (blk_below (g := gb421) (o := .cells #[.int .i64 a1_0, .int .i64 a1_1] 27 (0, 0)) (by (with_reducible repeat (first | refine blk_drewN ?_ _ | refine blk_drew ?_ | refine blk_alloc ?_ _)); exact BK421.out) hb); have n2_ := Aside0.mk (below_step (by repeat (first | (with_reducible first | exact HB.out | apply below_alloc | apply pw_below_drewN | apply below_drew1 | refine below_set ?_ GE420.out | refine below_set ?_ GE421.out) | exact HB.out)) hb); clear BK420; clear BK421; clear HB; have BK420 := n0_; have BK421 := n1_; have HB := n2_; clear n0_ n1_ n2_; (try clear hb); (try clear hb2); (try clear hk); (try clear hi); have hcz59_0 : w58.cell? ⟨gb420, 0, none⟩ = some (.bool a0_0) := (blk_cell BK420.out 0).trans rfl; have hcz59_1 : w58.cell? ⟨gb420, 1, none⟩ = some (.int .i64 a0_1) := (blk_cell BK420.out 1).trans rfl; have hcz59_2 : w58.cell? ⟨gb420, 2, none⟩ = some (.int .i64 a0_2) := (blk_cell BK420.out 2).trans rfl; have hcz59_3 : w58.cell? ⟨gb420, 3, none⟩ = some (.int .i64 a0_3) := (blk_cell BK420.out 3).trans rfl; have hcz59_4 : w58.cell? ⟨gb420, 4, none⟩ = some (.int .i64 a0_4) := (blk_cell BK420.out 4).trans rfl; have hcz59_5 : w58.cell? ⟨gb420, 5, none⟩ = some (.int .i64 a0_5) := (blk_cell BK420.out 5).trans rfl; have hcz59_6 : w58.cell? ⟨gb420, 6, none⟩ = some (.int .i64 a0_6) := (blk_cell BK420.out 6).trans rfl; have hfz59_0 := blk_frozen BK420.out 0; have hfz59_1 := blk_frozen BK420.out 1; have hfz59_2 := blk_frozen BK420.out 2; have hfz59_3 := blk_frozen BK420.out 3; have hfz59_4 := blk_frozen BK420.out 4; have hfz59_5 := blk_frozen BK420.out 5; have hfz59_6 := blk_frozen BK420.out 6; have hcz60_0 : w58.cell? ⟨gb421, 0, none⟩ = some (.int .i64 a1_0) := (blk_cell BK421.out 0).trans rfl; have hcz60_1 : w58.cell? ⟨gb421, 1, none⟩ = some (.int .i64 a1_1) := (blk_cell BK421.out 1).trans rfl; have hfz60_0 := blk_frozen BK421.out 0; have hfz60_1 := blk_frozen BK421.out 1) | ((with_reducible refine gate_callee (f := 13) rfl ?_); refine goesL_ (some 46) rfl rfl Try.func13 (by kernel_rfl) rfl #[.agg #[.bool a0_0, .int .i64 a0_1, .int .i64 a0_2, .int .i64 a0_3, .int .i64 a0_4, .int .i64 a0_5, .int .i64 a0_6], .agg #[.int .i64 a1_0, .int .i64 a1_1], .int .i64 (wrap64 (a2 + a3))] rfl (by (try simp only [List.map_toArray, List.map_cons, List.map_nil]); first | done | rfl | (simp only [List.length_drop, List.length_take]; rfl)) ?_; (with_reducible refine (guard_Send.calls kj5 a0_0 a0_1 a0_2 a0_3 a0_4 a0_5 a0_6 a1_0 a1_1 (wrap64 (a2 + a3)) t425 t426 _ A15.out).mono ?_); rintro e w61 ⟨rfl, hb⟩; refine ⟨_, rfl, ?_⟩; have n0_ := Aside0.mk (blk_below (g := gb420) (o := .cells #[.bool a0_0, .int .i64 a0_1, .int .i64 a0_2, .int .i64 a0_3, .int .i64 a0_4, .int .i64 a0_5, .int .i64 a0_6] 25 (0, 0)) (by (with_reducible repeat (first | refine blk_drewN ?_ _ | refine blk_drew ?_ | refine blk_alloc ?_ _)); exact BK420.out) hb); have n1_ := Aside0.mk (blk_below (g := gb421) (o := .cells #[.int .i64 a1_0, .int .i64 a1_1] 27 (0, 0)) (by (with_reducible repeat (first | refine blk_drewN ?_ _ | refine blk_drew ?_ | refine blk_alloc ?_ _)); exact BK421.out) hb); have n2_ := Aside0.mk (below_step (by repeat (first | (with_reducible first | exact HB.out | apply below_alloc | apply pw_below_drewN | apply below_drew1 | refine below_set ?_ GE420.out | refine below_set ?_ GE421.out) | exact HB.out)) hb); clear BK420; clear BK421; clear HB; have BK420 := n0_; have BK421 := n1_; have HB := n2_; clear n0_ n1_ n2_; (try clear hb); (try clear hb2); (try clear hk); (try clear hi)))
                  have n0_ := Aside0.mk (blk_drew BK420.out)
                  have n1_ := Aside0.mk (blk_drew BK421.out)
                  have n2_ := Aside0.mk (below_drew1 HB.out)
                  clear BK420
                  clear BK421
                  clear HB
                  have BK420 := n0_
                  have BK421 := n1_
                  have HB := n2_
                  clear n0_ n1_ n2_
                  refine start_ (n := 13) (S := fun w' => w'.cell? ⟨gb420, 0, none⟩ = some (.bool a0_0) ∧ w'.cell? ⟨gb420, 1, none⟩ = some (.int .i64 a0_1) ∧ w'.cell? ⟨gb420, 2, none⟩ = some (.int .i64 a0_2) ∧ w'.cell? ⟨gb420, 3, none⟩ = some (.int .i64 a0_3) ∧ w'.cell? ⟨gb420, 4, none⟩ = some (.int .i64 a0_4) ∧ w'.cell? ⟨gb420, 5, none⟩ = some (.int .i64 a0_5) ∧ w'.cell? ⟨gb420, 6, none⟩ = some (.int .i64 a0_6)) (ds := []) #[false, false, false, false, false, false, false, false, false, false, false, false, false] (by kernel_rfl) rfl rfl ⟨(blk_cell BK420.out 0).trans rfl, (blk_cell BK420.out 1).trans rfl, (blk_cell BK420.out 2).trans rfl, (blk_cell BK420.out 3).trans rfl, (blk_cell BK420.out 4).trans rfl, (blk_cell BK420.out 5).trans rfl, (blk_cell BK420.out 6).trans rfl⟩ (fun hHeld => ?_); refine with_tabW slotmeshtop_TopOnceSilent.tab8 slotmeshtop_TopOnceSilent.bits8 (fun HT_ HW_ => ?_)
                  generalize w61.drew = w62 at BK420 BK421 HB hHeld ⊢
                  refine pure_ (i := 0) (N := some 56) (v := ?_) (a' := ?_) #[true, false, false, false, false, false, false, false, false, false, false, false, false] rfl rfl (any_of HT_.out (by kernel_rfl)) (fun _ _ _ h => h) (Or.inl ⟨by rfl, ?_⟩) ?_ ?_
                  rotate_left
                  · intro w'
                    go_simp
                    with_reducible rfl
                  rotate_left
                  · simp only [Act.put, List.setIfInBounds_toArray, List.set_cons_zero, List.set_cons_succ, i64_w, i32_w]
                    rfl
                  refine take_ (i := 1) (N := some 57) (v := ?_) (a' := ?_) #[true, true, false, false, false, false, false, false, false, false, false, false, false] rfl rfl (take_ofW HT_.out HW_.out (by kernel_rfl)) (fun _ _ _ h => h) (Or.inl ⟨by rfl, ?_⟩) hHeld ?_ ?_
                  rotate_left
                  · rintro w' ⟨s0, s1, s2, s3, s4, s5, s6⟩
                    go_simp
                    with_reducible rfl
                  rotate_left
                  · simp only [Act.put, List.setIfInBounds_toArray, List.set_cons_zero, List.set_cons_succ, i64_w, i32_w]
                    rfl
                  refine pure_ (i := 2) (N := some 58) (v := ?_) (a' := ?_) #[true, true, true, false, false, false, false, false, false, false, false, false, false] rfl rfl (any_of HT_.out (by kernel_rfl)) (fun _ _ _ h => h) (Or.inl ⟨by rfl, ?_⟩) ?_ ?_
                  rotate_left
                  · intro w'
                    go_simp
                    with_reducible rfl
                  rotate_left
                  · simp only [Act.put, List.setIfInBounds_toArray, List.set_cons_zero, List.set_cons_succ, i64_w, i32_w]
                    rfl
                  refine pure_ (i := 3) (N := some 59) (v := ?_) (a' := ?_) #[true, true, true, true, false, false, false, false, false, false, false, false, false] rfl rfl (any_of HT_.out (by kernel_rfl)) (fun _ _ _ h => h) (Or.inl ⟨by rfl, ?_⟩) ?_ ?_
                  rotate_left
                  · intro w'
                    go_simp
                    with_reducible rfl
                  rotate_left
                  · simp only [Act.put, List.setIfInBounds_toArray, List.set_cons_zero, List.set_cons_succ, i64_w, i32_w]
                    rfl
                  refine pure_ (i := 5) (N := some 61) (v := ?_) (a' := ?_) #[true, true, true, true, false, true, false, false, false, false, false, false, false] rfl rfl (any_of HT_.out (by kernel_rfl)) (fun _ _ _ h => h) (Or.inl ⟨by rfl, ?_⟩) ?_ ?_
                  rotate_left
                  · intro w'
                    go_simp
                    with_reducible rfl
                  rotate_left
                  · simp only [Act.put, List.setIfInBounds_toArray, List.set_cons_zero, List.set_cons_succ, i64_w, i32_w]
                    rfl
                  refine pure_ (i := 7) (N := some 63) (v := ?_) (a' := ?_) #[true, true, true, true, false, true, false, true, false, false, false, false, false] rfl rfl (any_of HT_.out (by kernel_rfl)) (fun _ _ _ h => h) (Or.inl ⟨by rfl, ?_⟩) ?_ ?_
                  rotate_left
                  · intro w'
                    go_simp
                    with_reducible rfl
                  rotate_left
                  · simp only [Act.put, List.setIfInBounds_toArray, List.set_cons_zero, List.set_cons_succ, i64_w, i32_w]
                    rfl
                  refine pure_ (i := 8) (N := some 64) (v := ?_) (a' := ?_) #[true, true, true, true, false, true, false, true, true, false, false, false, false] rfl rfl (any_of HT_.out (by kernel_rfl)) (fun _ _ _ h => h) (Or.inl ⟨by rfl, ?_⟩) ?_ ?_
                  rotate_left
                  · intro w'
                    go_simp
                    with_reducible rfl
                  rotate_left
                  · simp only [Act.put, List.setIfInBounds_toArray, List.set_cons_zero, List.set_cons_succ, i64_w, i32_w]
                    rfl
                  refine take_ (i := 4) (N := some 60) (v := ?_) (a' := ?_) #[true, true, true, true, true, true, false, true, true, false, false, false, false] rfl rfl (take_ofW HT_.out HW_.out (by kernel_rfl)) (fun _ _ _ h => h) (Or.inl ⟨by rfl, ?_⟩) hHeld ?_ ?_
                  rotate_left
                  · rintro w' ⟨s0, s1, s2, s3, s4, s5, s6⟩
                    go_simp
                    with_reducible rfl
                  rotate_left
                  · simp only [Act.put, List.setIfInBounds_toArray, List.set_cons_zero, List.set_cons_succ, i64_w, i32_w]
                    rfl
                  refine take_ (i := 9) (N := some 65) (v := ?_) (a' := ?_) #[true, true, true, true, true, true, false, true, true, true, false, false, false] rfl rfl (take_ofW HT_.out HW_.out (by kernel_rfl)) (fun _ _ _ h => h) (Or.inl ⟨by rfl, ?_⟩) hHeld ?_ ?_
                  rotate_left
                  · rintro w' ⟨s0, s1, s2, s3, s4, s5, s6⟩
                    go_simp
                    with_reducible rfl
                  rotate_left
                  · simp only [Act.put, List.setIfInBounds_toArray, List.set_cons_zero, List.set_cons_succ, i64_w, i32_w]
                    rfl
                  refine one_ (i := 6) (N := some 62) #[true, true, true, true, true, true, true, true, true, true, false, false, false] rfl rfl (one_of HT_.out (by kernel_rfl)) (by decide) (fun K hK => ?_)
                  refine goes_ Try.func14 (by kernel_rfl) rfl #[.agg #[.bool a0_0, .int .i64 a0_1, .int .i64 a0_2, .int .i64 a0_3, .int .i64 a0_4, .int .i64 a0_5, .int .i64 a0_6], .int .i64 a2] (by rfl) rfl rfl (by (try simp only [List.map_toArray, List.map_cons, List.map_nil]); first | done | rfl | (simp only [List.length_drop, List.length_take]; rfl)) ?_
                  with_reducible refine (slotmeshref10_Own.calls a0_0 a0_1 a0_2 a0_3 a0_4 a0_5 a0_6 a2 t429 _ A42.out).mono ?_
                  rintro e w63 ⟨rfl, hb⟩
                  refine ⟨_, rfl, ?_⟩
                  have n0_ := Aside0.mk (blk_below (g := gb420) (o := .cells #[.bool a0_0, .int .i64 a0_1, .int .i64 a0_2, .int .i64 a0_3, .int .i64 a0_4, .int .i64 a0_5, .int .i64 a0_6] 25 (0, 0)) (by (with_reducible repeat (first | refine blk_drewN ?_ _ | refine blk_drew ?_ | refine blk_alloc ?_ _)); exact BK420.out) hb)
                  have n1_ := Aside0.mk (blk_below (g := gb421) (o := .cells #[.int .i64 a1_0, .int .i64 a1_1] 27 (0, 0)) (by (with_reducible repeat (first | refine blk_drewN ?_ _ | refine blk_drew ?_ | refine blk_alloc ?_ _)); exact BK421.out) hb)
                  have n2_ := Aside0.mk (below_step (by repeat (first | (with_reducible first | exact HB.out | apply below_alloc | apply pw_below_drewN | apply below_drew1 | refine below_set ?_ GE420.out | refine below_set ?_ GE421.out) | exact HB.out)) hb)
                  clear BK420
                  clear BK421
                  clear HB
                  have BK420 := n0_
                  have BK421 := n1_
                  have HB := n2_
                  clear n0_ n1_ n2_
                  (try clear hb)
                  (try clear hb2)
                  (try clear hk)
                  (try clear hi)
                  refine hK.out _ _ ⟨(blk_cell BK420.out 0).trans rfl, (blk_cell BK420.out 1).trans rfl, (blk_cell BK420.out 2).trans rfl, (blk_cell BK420.out 3).trans rfl, (blk_cell BK420.out 4).trans rfl, (blk_cell BK420.out 5).trans rfl, (blk_cell BK420.out 6).trans rfl⟩ (fun hHeld => ?_)
                  clear hK K
                  refine norm_ (a' := ?_) ?_ ?_
                  rotate_left
                  · show Act.put _ (some 62) _ = _
                    simp only [Act.put, List.setIfInBounds_toArray, List.set_cons_zero, List.set_cons_succ, i64_w, i32_w]
                    rfl
                  refine pure_ (i := 10) (N := some 66) (v := ?_) (a' := ?_) #[true, true, true, true, true, true, true, true, true, true, true, false, false] rfl rfl (any_of HT_.out (by kernel_rfl)) (fun _ _ _ h => h) (Or.inl ⟨by rfl, ?_⟩) ?_ ?_
                  rotate_left
                  · intro w'
                    go_simp
                    with_reducible rfl
                  rotate_left
                  · simp only [Act.put, List.setIfInBounds_toArray, List.set_cons_zero, List.set_cons_succ, i64_w, i32_w]
                    rfl
                  refine pure_ (i := 11) (N := some 67) (v := ?_) (a' := ?_) #[true, true, true, true, true, true, true, true, true, true, true, true, false] rfl rfl (any_of HT_.out (by kernel_rfl)) (fun _ _ _ h => h) (Or.inl ⟨by rfl, ?_⟩) ?_ ?_
                  rotate_left
                  · intro w'
                    go_simp
                    with_reducible rfl
                  rotate_left
                  · simp only [Act.put, List.setIfInBounds_toArray, List.set_cons_zero, List.set_cons_succ, i64_w, i32_w]
                    rfl
                  refine pure_ (i := 12) (N := some 14) (v := ?_) (a' := ?_) #[true, true, true, true, true, true, true, true, true, true, true, true, true] rfl rfl (any_of HT_.out (by kernel_rfl)) (fun _ _ _ h => h) (Or.inl ⟨by rfl, ?_⟩) ?_ ?_
                  rotate_left
                  · intro w'
                    go_simp
                    with_reducible rfl
                  rotate_left
                  · simp only [Act.put, List.setIfInBounds_toArray, List.set_cons_zero, List.set_cons_succ, i64_w, i32_w]
                    rfl
                  refine done_ (done_of HT_.out (by kernel_rfl)) ?_
                  try go_wp2
                  go_ret
                  exact ⟨by first | rfl | (simp [errW_none, errW_some] <;> rfl) | (simp [*, errW_none, errW_some] <;> rfl), by repeat (first | (with_reducible first | exact HB.out | apply below_alloc | apply pw_below_drewN | apply below_drew1 | refine below_set ?_ GE420.out | refine below_set ?_ GE421.out) | exact HB.out)⟩
              · rw [if_neg c44] at H
                have c44b0 : (t426 == 0) = false := beq_eq_false_iff_ne.mpr c44
                have c44b1 : (t426 != 0) = true := bne_iff_ne.mpr c44
                obtain rfl := Option.some.inj H
                have hnb64 := NB420_421.out
                have hnc64 := NB421_420.out
                have hcz65_0 : wc.cell? ⟨gb420, 0, none⟩ = some (.bool a0_0) := (blk_cell BK420.out 0).trans rfl
                have hcz65_1 : wc.cell? ⟨gb420, 1, none⟩ = some (.int .i64 a0_1) := (blk_cell BK420.out 1).trans rfl
                have hcz65_2 : wc.cell? ⟨gb420, 2, none⟩ = some (.int .i64 a0_2) := (blk_cell BK420.out 2).trans rfl
                have hcz65_3 : wc.cell? ⟨gb420, 3, none⟩ = some (.int .i64 a0_3) := (blk_cell BK420.out 3).trans rfl
                have hcz65_4 : wc.cell? ⟨gb420, 4, none⟩ = some (.int .i64 a0_4) := (blk_cell BK420.out 4).trans rfl
                have hcz65_5 : wc.cell? ⟨gb420, 5, none⟩ = some (.int .i64 a0_5) := (blk_cell BK420.out 5).trans rfl
                have hcz65_6 : wc.cell? ⟨gb420, 6, none⟩ = some (.int .i64 a0_6) := (blk_cell BK420.out 6).trans rfl
                have hfz65_0 := blk_frozen BK420.out 0
                have hfz65_1 := blk_frozen BK420.out 1
                have hfz65_2 := blk_frozen BK420.out 2
                have hfz65_3 := blk_frozen BK420.out 3
                have hfz65_4 := blk_frozen BK420.out 4
                have hfz65_5 := blk_frozen BK420.out 5
                have hfz65_6 := blk_frozen BK420.out 6
                have hcz66_0 : wc.cell? ⟨gb421, 0, none⟩ = some (.int .i64 a1_0) := (blk_cell BK421.out 0).trans rfl
                have hcz66_1 : wc.cell? ⟨gb421, 1, none⟩ = some (.int .i64 a1_1) := (blk_cell BK421.out 1).trans rfl
                have hfz66_0 := blk_frozen BK421.out 0
                have hfz66_1 := blk_frozen BK421.out 1
                try go_wp2_with (first | ((with_reducible refine gate_callee (f := 13) rfl ?_); refine goesL_ (some 37) rfl rfl Try.func13 (by kernel_rfl) rfl #[.agg #[.bool a0_0, .int .i64 a0_1, .int .i64 a0_2, .int .i64 a0_3, .int .i64 a0_4, .int .i64 a0_5, .int .i64 a0_6], .agg #[.int .i64 a1_0, .int .i64 a1_1], .int .i64 a2] rfl (by (try simp only [List.map_toArray, List.map_cons, List.map_nil]); first | done | rfl | (simp only [List.length_drop, List.length_take]; rfl)) ?_; (with_reducible refine (guard_Send.calls kj5 a0_0 a0_1 a0_2 a0_3 a0_4 a0_5 a0_6 a1_0 a1_1 a2 t423 t424 _ A14.out).mono ?_); rintro e w67 ⟨rfl, hb⟩; refine ⟨_, rfl, ?_⟩; have n0_ := Aside0.mk (blk_below (g := gb420) (o := .cells #[.bool a0_0, .int .i64 a0_1, .int .i64 a0_2, .int .i64 a0_3, .int .i64 a0_4, .int .i64 a0_5, .int .i64 a0_6] 25 (0, 0)) (by (with_reducible repeat (first | refine blk_drewN ?_ _ | refine blk_drew ?_ | refine blk_alloc ?_ _)); exact BK420.out) hb); have n1_ := Aside0.mk (blk_below (g := gb421) (o := .cells #[.int .i64 a1_0, .int .i64 a1_1] 27 (0, 0)) (by (with_reducible repeat (first | refine blk_drewN ?_ _ | refine blk_drew ?_ | refine blk_alloc ?_ _)); exact BK421.out) hb); have n2_ := Aside0.mk (below_step (by repeat (first | (with_reducible first | exact HB.out | apply below_alloc | apply pw_below_drewN | apply below_drew1 | refine below_set ?_ GE420.out | refine below_set ?_ GE421.out) | exact HB.out)) hb); clear BK420; clear BK421; clear HB; have BK420 := n0_; have BK421 := n1_; have HB := n2_; clear n0_ n1_ n2_; (try clear hb); (try clear hb2); (try clear hk); (try clear hi); have hcz68_0 : w67.cell? ⟨gb420, 0, none⟩ = some (.bool a0_0) := (blk_cell BK420.out 0).trans rfl; have hcz68_1 : w67.cell? ⟨gb420, 1, none⟩ = some (.int .i64 a0_1) := (blk_cell BK420.out 1).trans rfl; have hcz68_2 : w67.cell? ⟨gb420, 2, none⟩ = some (.int .i64 a0_2) := (blk_cell BK420.out 2).trans rfl; have hcz68_3 : w67.cell? ⟨gb420, 3, none⟩ = some (.int .i64 a0_3) := (blk_cell BK420.out 3).trans rfl; have hcz68_4 : w67.cell? ⟨gb420, 4, none⟩ = some (.int .i64 a0_4) := (blk_cell BK420.out 4).trans rfl; have hcz68_5 : w67.cell? ⟨gb420, 5, none⟩ = some (.int .i64 a0_5) := (blk_cell BK420.out 5).trans rfl; have hcz68_6 : w67.cell? ⟨gb420, 6, none⟩ = some (.int .i64 a0_6) := (blk_cell BK420.out 6).trans rfl; have hfz68_0 := blk_frozen BK420.out 0; have hfz68_1 := blk_frozen BK420.out 1; have hfz68_2 := blk_frozen BK420.out 2; have hfz68_3 := blk_frozen BK420.out 3; have hfz68_4 := blk_frozen BK420.out 4; have hfz68_5 := blk_frozen BK420.out 5; have hfz68_6 := blk_frozen BK420.out 6; have hcz69_0 : w67.cell? ⟨gb421, 0, none⟩ = some (.int .i64 a1_0) := (blk_cell BK421.out 0).trans rfl; have hcz69_1 : w67.cell? ⟨gb421, 1, none⟩ = some (.int .i64 a1_1) := (blk_cell BK421.out 1).trans rfl; have hfz69_0 := blk_frozen BK421.out 0; have hfz69_1 := blk_frozen BK421.out 1) | ((with_reducible refine gate_callee (f := 13) rfl ?_); refine goesL_ (some 46) rfl rfl Try.func13 (by kernel_rfl) rfl #[.agg #[.bool a0_0, .int .i64 a0_1, .int .i64 a0_2, .int .i64 a0_3, .int .i64 a0_4, .int .i64 a0_5, .int .i64 a0_6], .agg #[.int .i64 a1_0, .int .i64 a1_1], .int .i64 (wrap64 (a2 + a3))] rfl (by (try simp only [List.map_toArray, List.map_cons, List.map_nil]); first | done | rfl | (simp only [List.length_drop, List.length_take]; rfl)) ?_; (with_reducible refine (guard_Send.calls kj5 a0_0 a0_1 a0_2 a0_3 a0_4 a0_5 a0_6 a1_0 a1_1 (wrap64 (a2 + a3)) t425 t426 _ A15.out).mono ?_); rintro e w70 ⟨rfl, hb⟩; refine ⟨_, rfl, ?_⟩; have n0_ := Aside0.mk (blk_below (g := gb420) (o := .cells #[.bool a0_0, .int .i64 a0_1, .int .i64 a0_2, .int .i64 a0_3, .int .i64 a0_4, .int .i64 a0_5, .int .i64 a0_6] 25 (0, 0)) (by (with_reducible repeat (first | refine blk_drewN ?_ _ | refine blk_drew ?_ | refine blk_alloc ?_ _)); exact BK420.out) hb); have n1_ := Aside0.mk (blk_below (g := gb421) (o := .cells #[.int .i64 a1_0, .int .i64 a1_1] 27 (0, 0)) (by (with_reducible repeat (first | refine blk_drewN ?_ _ | refine blk_drew ?_ | refine blk_alloc ?_ _)); exact BK421.out) hb); have n2_ := Aside0.mk (below_step (by repeat (first | (with_reducible first | exact HB.out | apply below_alloc | apply pw_below_drewN | apply below_drew1 | refine below_set ?_ GE420.out | refine below_set ?_ GE421.out) | exact HB.out)) hb); clear BK420; clear BK421; clear HB; have BK420 := n0_; have BK421 := n1_; have HB := n2_; clear n0_ n1_ n2_; (try clear hb); (try clear hb2); (try clear hk); (try clear hi)))
                have n0_ := Aside0.mk (blk_drew BK420.out)
                have n1_ := Aside0.mk (blk_drew BK421.out)
                have n2_ := Aside0.mk (below_drew1 HB.out)
                clear BK420
                clear BK421
                clear HB
                have BK420 := n0_
                have BK421 := n1_
                have HB := n2_
                clear n0_ n1_ n2_
                refine start_ (n := 13) (S := fun w' => w'.cell? ⟨gb420, 0, none⟩ = some (.bool a0_0) ∧ w'.cell? ⟨gb420, 1, none⟩ = some (.int .i64 a0_1) ∧ w'.cell? ⟨gb420, 2, none⟩ = some (.int .i64 a0_2) ∧ w'.cell? ⟨gb420, 3, none⟩ = some (.int .i64 a0_3) ∧ w'.cell? ⟨gb420, 4, none⟩ = some (.int .i64 a0_4) ∧ w'.cell? ⟨gb420, 5, none⟩ = some (.int .i64 a0_5) ∧ w'.cell? ⟨gb420, 6, none⟩ = some (.int .i64 a0_6)) (ds := []) #[false, false, false, false, false, false, false, false, false, false, false, false, false] (by kernel_rfl) rfl rfl ⟨(blk_cell BK420.out 0).trans rfl, (blk_cell BK420.out 1).trans rfl, (blk_cell BK420.out 2).trans rfl, (blk_cell BK420.out 3).trans rfl, (blk_cell BK420.out 4).trans rfl, (blk_cell BK420.out 5).trans rfl, (blk_cell BK420.out 6).trans rfl⟩ (fun hHeld => ?_); refine with_tabW slotmeshtop_TopOnceSilent.tab8 slotmeshtop_TopOnceSilent.bits8 (fun HT_ HW_ => ?_)
                generalize w70.drew = w71 at BK420 BK421 HB hHeld ⊢
                refine pure_ (i := 0) (N := some 56) (v := ?_) (a' := ?_) #[true, false, false, false, false, false, false, false, false, false, false, false, false] rfl rfl (any_of HT_.out (by kernel_rfl)) (fun _ _ _ h => h) (Or.inl ⟨by rfl, ?_⟩) ?_ ?_
                rotate_left
                · intro w'
                  go_simp
                  with_reducible rfl
                rotate_left
                · simp only [Act.put, List.setIfInBounds_toArray, List.set_cons_zero, List.set_cons_succ, i64_w, i32_w]
                  rfl
                refine take_ (i := 1) (N := some 57) (v := ?_) (a' := ?_) #[true, true, false, false, false, false, false, false, false, false, false, false, false] rfl rfl (take_ofW HT_.out HW_.out (by kernel_rfl)) (fun _ _ _ h => h) (Or.inl ⟨by rfl, ?_⟩) hHeld ?_ ?_
                rotate_left
                · rintro w' ⟨s0, s1, s2, s3, s4, s5, s6⟩
                  go_simp
                  with_reducible rfl
                rotate_left
                · simp only [Act.put, List.setIfInBounds_toArray, List.set_cons_zero, List.set_cons_succ, i64_w, i32_w]
                  rfl
                refine pure_ (i := 2) (N := some 58) (v := ?_) (a' := ?_) #[true, true, true, false, false, false, false, false, false, false, false, false, false] rfl rfl (any_of HT_.out (by kernel_rfl)) (fun _ _ _ h => h) (Or.inl ⟨by rfl, ?_⟩) ?_ ?_
                rotate_left
                · intro w'
                  go_simp
                  with_reducible rfl
                rotate_left
                · simp only [Act.put, List.setIfInBounds_toArray, List.set_cons_zero, List.set_cons_succ, i64_w, i32_w]
                  rfl
                refine pure_ (i := 3) (N := some 59) (v := ?_) (a' := ?_) #[true, true, true, true, false, false, false, false, false, false, false, false, false] rfl rfl (any_of HT_.out (by kernel_rfl)) (fun _ _ _ h => h) (Or.inl ⟨by rfl, ?_⟩) ?_ ?_
                rotate_left
                · intro w'
                  go_simp
                  with_reducible rfl
                rotate_left
                · simp only [Act.put, List.setIfInBounds_toArray, List.set_cons_zero, List.set_cons_succ, i64_w, i32_w]
                  rfl
                refine pure_ (i := 5) (N := some 61) (v := ?_) (a' := ?_) #[true, true, true, true, false, true, false, false, false, false, false, false, false] rfl rfl (any_of HT_.out (by kernel_rfl)) (fun _ _ _ h => h) (Or.inl ⟨by rfl, ?_⟩) ?_ ?_
                rotate_left
                · intro w'
                  go_simp
                  with_reducible rfl
                rotate_left
                · simp only [Act.put, List.setIfInBounds_toArray, List.set_cons_zero, List.set_cons_succ, i64_w, i32_w]
                  rfl
                refine pure_ (i := 7) (N := some 63) (v := ?_) (a' := ?_) #[true, true, true, true, false, true, false, true, false, false, false, false, false] rfl rfl (any_of HT_.out (by kernel_rfl)) (fun _ _ _ h => h) (Or.inl ⟨by rfl, ?_⟩) ?_ ?_
                rotate_left
                · intro w'
                  go_simp
                  with_reducible rfl
                rotate_left
                · simp only [Act.put, List.setIfInBounds_toArray, List.set_cons_zero, List.set_cons_succ, i64_w, i32_w]
                  rfl
                refine pure_ (i := 8) (N := some 64) (v := ?_) (a' := ?_) #[true, true, true, true, false, true, false, true, true, false, false, false, false] rfl rfl (any_of HT_.out (by kernel_rfl)) (fun _ _ _ h => h) (Or.inl ⟨by rfl, ?_⟩) ?_ ?_
                rotate_left
                · intro w'
                  go_simp
                  with_reducible rfl
                rotate_left
                · simp only [Act.put, List.setIfInBounds_toArray, List.set_cons_zero, List.set_cons_succ, i64_w, i32_w]
                  rfl
                refine take_ (i := 4) (N := some 60) (v := ?_) (a' := ?_) #[true, true, true, true, true, true, false, true, true, false, false, false, false] rfl rfl (take_ofW HT_.out HW_.out (by kernel_rfl)) (fun _ _ _ h => h) (Or.inl ⟨by rfl, ?_⟩) hHeld ?_ ?_
                rotate_left
                · rintro w' ⟨s0, s1, s2, s3, s4, s5, s6⟩
                  go_simp
                  with_reducible rfl
                rotate_left
                · simp only [Act.put, List.setIfInBounds_toArray, List.set_cons_zero, List.set_cons_succ, i64_w, i32_w]
                  rfl
                refine take_ (i := 9) (N := some 65) (v := ?_) (a' := ?_) #[true, true, true, true, true, true, false, true, true, true, false, false, false] rfl rfl (take_ofW HT_.out HW_.out (by kernel_rfl)) (fun _ _ _ h => h) (Or.inl ⟨by rfl, ?_⟩) hHeld ?_ ?_
                rotate_left
                · rintro w' ⟨s0, s1, s2, s3, s4, s5, s6⟩
                  go_simp
                  with_reducible rfl
                rotate_left
                · simp only [Act.put, List.setIfInBounds_toArray, List.set_cons_zero, List.set_cons_succ, i64_w, i32_w]
                  rfl
                refine one_ (i := 6) (N := some 62) #[true, true, true, true, true, true, true, true, true, true, false, false, false] rfl rfl (one_of HT_.out (by kernel_rfl)) (by decide) (fun K hK => ?_)
                refine goes_ Try.func14 (by kernel_rfl) rfl #[.agg #[.bool a0_0, .int .i64 a0_1, .int .i64 a0_2, .int .i64 a0_3, .int .i64 a0_4, .int .i64 a0_5, .int .i64 a0_6], .int .i64 a2] (by rfl) rfl rfl (by (try simp only [List.map_toArray, List.map_cons, List.map_nil]); first | done | rfl | (simp only [List.length_drop, List.length_take]; rfl)) ?_
                with_reducible refine (slotmeshref10_Own.calls a0_0 a0_1 a0_2 a0_3 a0_4 a0_5 a0_6 a2 t429 _ A42.out).mono ?_
                rintro e w72 ⟨rfl, hb⟩
                refine ⟨_, rfl, ?_⟩
                have n0_ := Aside0.mk (blk_below (g := gb420) (o := .cells #[.bool a0_0, .int .i64 a0_1, .int .i64 a0_2, .int .i64 a0_3, .int .i64 a0_4, .int .i64 a0_5, .int .i64 a0_6] 25 (0, 0)) (by (with_reducible repeat (first | refine blk_drewN ?_ _ | refine blk_drew ?_ | refine blk_alloc ?_ _)); exact BK420.out) hb)
                have n1_ := Aside0.mk (blk_below (g := gb421) (o := .cells #[.int .i64 a1_0, .int .i64 a1_1] 27 (0, 0)) (by (with_reducible repeat (first | refine blk_drewN ?_ _ | refine blk_drew ?_ | refine blk_alloc ?_ _)); exact BK421.out) hb)
                have n2_ := Aside0.mk (below_step (by repeat (first | (with_reducible first | exact HB.out | apply below_alloc | apply pw_below_drewN | apply below_drew1 | refine below_set ?_ GE420.out | refine below_set ?_ GE421.out) | exact HB.out)) hb)
                clear BK420
                clear BK421
                clear HB
                have BK420 := n0_
                have BK421 := n1_
                have HB := n2_
                clear n0_ n1_ n2_
                (try clear hb)
                (try clear hb2)
                (try clear hk)
                (try clear hi)
                refine hK.out _ _ ⟨(blk_cell BK420.out 0).trans rfl, (blk_cell BK420.out 1).trans rfl, (blk_cell BK420.out 2).trans rfl, (blk_cell BK420.out 3).trans rfl, (blk_cell BK420.out 4).trans rfl, (blk_cell BK420.out 5).trans rfl, (blk_cell BK420.out 6).trans rfl⟩ (fun hHeld => ?_)
                clear hK K
                refine norm_ (a' := ?_) ?_ ?_
                rotate_left
                · show Act.put _ (some 62) _ = _
                  simp only [Act.put, List.setIfInBounds_toArray, List.set_cons_zero, List.set_cons_succ, i64_w, i32_w]
                  rfl
                refine pure_ (i := 10) (N := some 66) (v := ?_) (a' := ?_) #[true, true, true, true, true, true, true, true, true, true, true, false, false] rfl rfl (any_of HT_.out (by kernel_rfl)) (fun _ _ _ h => h) (Or.inl ⟨by rfl, ?_⟩) ?_ ?_
                rotate_left
                · intro w'
                  go_simp
                  with_reducible rfl
                rotate_left
                · simp only [Act.put, List.setIfInBounds_toArray, List.set_cons_zero, List.set_cons_succ, i64_w, i32_w]
                  rfl
                refine pure_ (i := 11) (N := some 67) (v := ?_) (a' := ?_) #[true, true, true, true, true, true, true, true, true, true, true, true, false] rfl rfl (any_of HT_.out (by kernel_rfl)) (fun _ _ _ h => h) (Or.inl ⟨by rfl, ?_⟩) ?_ ?_
                rotate_left
                · intro w'
                  go_simp
                  with_reducible rfl
                rotate_left
                · simp only [Act.put, List.setIfInBounds_toArray, List.set_cons_zero, List.set_cons_succ, i64_w, i32_w]
                  rfl
                refine pure_ (i := 12) (N := some 14) (v := ?_) (a' := ?_) #[true, true, true, true, true, true, true, true, true, true, true, true, true] rfl rfl (any_of HT_.out (by kernel_rfl)) (fun _ _ _ h => h) (Or.inl ⟨by rfl, ?_⟩) ?_ ?_
                rotate_left
                · intro w'
                  go_simp
                  with_reducible rfl
                rotate_left
                · simp only [Act.put, List.setIfInBounds_toArray, List.set_cons_zero, List.set_cons_succ, i64_w, i32_w]
                  rfl
                refine done_ (done_of HT_.out (by kernel_rfl)) ?_
                try go_wp2
                go_ret
                exact ⟨by first | rfl | (simp [errW_none, errW_some] <;> rfl) | (simp [*, errW_none, errW_some] <;> rfl), by repeat (first | (with_reducible first | exact HB.out | apply below_alloc | apply pw_below_drewN | apply below_drew1 | refine below_set ?_ GE420.out | refine below_set ?_ GE421.out) | exact HB.out)⟩
            · replace c43 := Bool.eq_false_iff.mpr c43
              subst c43
              have H1 : (none) = some r := by rw [if_neg (show ¬ (false = true) by decide)] at H; exact H
              clear H
              have H := H1
              clear H1
              exact absurd H (by simp)
          · rw [if_neg c41] at H
            have c41b0 : decide (0 < a0_4) = false := decide_eq_false c41
            clear c41
            by_cases c73 : t422 = true
            · subst c73
              have H1 : (if t426 = 0 then (some (t424 == 0)) else (some true)) = some r := by rw [if_pos rfl] at H; exact H
              clear H
              have H := H1
              clear H1
              by_cases c74 : t426 = 0
              · rw [if_pos c74] at H
                have c74b0 : (t426 == 0) = true := beq_iff_eq.mpr c74
                have c74b1 : (t426 != 0) = false := bne_eq_false_iff_eq.mpr c74
                clear c74
                obtain rfl := Option.some.inj H
                have hnb75 := NB420_421.out
                have hnc75 := NB421_420.out
                have hcz76_0 : wc.cell? ⟨gb420, 0, none⟩ = some (.bool a0_0) := (blk_cell BK420.out 0).trans rfl
                have hcz76_1 : wc.cell? ⟨gb420, 1, none⟩ = some (.int .i64 a0_1) := (blk_cell BK420.out 1).trans rfl
                have hcz76_2 : wc.cell? ⟨gb420, 2, none⟩ = some (.int .i64 a0_2) := (blk_cell BK420.out 2).trans rfl
                have hcz76_3 : wc.cell? ⟨gb420, 3, none⟩ = some (.int .i64 a0_3) := (blk_cell BK420.out 3).trans rfl
                have hcz76_4 : wc.cell? ⟨gb420, 4, none⟩ = some (.int .i64 a0_4) := (blk_cell BK420.out 4).trans rfl
                have hcz76_5 : wc.cell? ⟨gb420, 5, none⟩ = some (.int .i64 a0_5) := (blk_cell BK420.out 5).trans rfl
                have hcz76_6 : wc.cell? ⟨gb420, 6, none⟩ = some (.int .i64 a0_6) := (blk_cell BK420.out 6).trans rfl
                have hfz76_0 := blk_frozen BK420.out 0
                have hfz76_1 := blk_frozen BK420.out 1
                have hfz76_2 := blk_frozen BK420.out 2
                have hfz76_3 := blk_frozen BK420.out 3
                have hfz76_4 := blk_frozen BK420.out 4
                have hfz76_5 := blk_frozen BK420.out 5
                have hfz76_6 := blk_frozen BK420.out 6
                have hcz77_0 : wc.cell? ⟨gb421, 0, none⟩ = some (.int .i64 a1_0) := (blk_cell BK421.out 0).trans rfl
                have hcz77_1 : wc.cell? ⟨gb421, 1, none⟩ = some (.int .i64 a1_1) := (blk_cell BK421.out 1).trans rfl
                have hfz77_0 := blk_frozen BK421.out 0
                have hfz77_1 := blk_frozen BK421.out 1
                try go_wp2_with (first | ((with_reducible refine gate_callee (f := 13) rfl ?_); refine goesL_ (some 37) rfl rfl Try.func13 (by kernel_rfl) rfl #[.agg #[.bool a0_0, .int .i64 a0_1, .int .i64 a0_2, .int .i64 a0_3, .int .i64 a0_4, .int .i64 a0_5, .int .i64 a0_6], .agg #[.int .i64 a1_0, .int .i64 a1_1], .int .i64 a2] rfl (by (try simp only [List.map_toArray, List.map_cons, List.map_nil]); first | done | rfl | (simp only [List.length_drop, List.length_take]; rfl)) ?_; (with_reducible refine (guard_Send.calls kj5 a0_0 a0_1 a0_2 a0_3 a0_4 a0_5 a0_6 a1_0 a1_1 a2 t423 t424 _ A14.out).mono ?_); rintro e w78 ⟨rfl, hb⟩; refine ⟨_, rfl, ?_⟩; have n0_ := Aside0.mk (blk_below (g := gb420) (o := .cells #[.bool a0_0, .int .i64 a0_1, .int .i64 a0_2, .int .i64 a0_3, .int .i64 a0_4, .int .i64 a0_5, .int .i64 a0_6] 25 (0, 0)) (by (with_reducible repeat (first | refine blk_drewN ?_ _ | refine blk_drew ?_ | refine blk_alloc ?_ _)); exact BK420.out) hb); have n1_ := Aside0.mk (blk_below (g := gb421) (o := .cells #[.int .i64 a1_0, .int .i64 a1_1] 27 (0, 0)) (by (with_reducible repeat (first | refine blk_drewN ?_ _ | refine blk_drew ?_ | refine blk_alloc ?_ _)); exact BK421.out) hb); have n2_ := Aside0.mk (below_step (by repeat (first | (with_reducible first | exact HB.out | apply below_alloc | apply pw_below_drewN | apply below_drew1 | refine below_set ?_ GE420.out | refine below_set ?_ GE421.out) | exact HB.out)) hb); clear BK420; clear BK421; clear HB; have BK420 := n0_; have BK421 := n1_; have HB := n2_; clear n0_ n1_ n2_; (try clear hb); (try clear hb2); (try clear hk); (try clear hi); have hcz79_0 : w78.cell? ⟨gb420, 0, none⟩ = some (.bool a0_0) := (blk_cell BK420.out 0).trans rfl; have hcz79_1 : w78.cell? ⟨gb420, 1, none⟩ = some (.int .i64 a0_1) := (blk_cell BK420.out 1).trans rfl; have hcz79_2 : w78.cell? ⟨gb420, 2, none⟩ = some (.int .i64 a0_2) := (blk_cell BK420.out 2).trans rfl; have hcz79_3 : w78.cell? ⟨gb420, 3, none⟩ = some (.int .i64 a0_3) := (blk_cell BK420.out 3).trans rfl; have hcz79_4 : w78.cell? ⟨gb420, 4, none⟩ = some (.int .i64 a0_4) := (blk_cell BK420.out 4).trans rfl; have hcz79_5 : w78.cell? ⟨gb420, 5, none⟩ = some (.int .i64 a0_5) := (blk_cell BK420.out 5).trans rfl; have hcz79_6 : w78.cell? ⟨gb420, 6, none⟩ = some (.int .i64 a0_6) := (blk_cell BK420.out 6).trans rfl; have hfz79_0 := blk_frozen BK420.out 0; have hfz79_1 := blk_frozen BK420.out 1; have hfz79_2 := blk_frozen BK420.out 2; have hfz79_3 := blk_frozen BK420.out 3; have hfz79_4 := blk_frozen BK420.out 4; have hfz79_5 := blk_frozen BK420.out 5; have hfz79_6 := blk_frozen BK420.out 6; have hcz80_0 : w78.cell? ⟨gb421, 0, none⟩ = some (.int .i64 a1_0) := (blk_cell BK421.out 0).trans rfl; have hcz80_1 : w78.cell? ⟨gb421, 1, none⟩ = some (.int .i64 a1_1) := (blk_cell BK421.out 1).trans rfl; have hfz80_0 := blk_frozen BK421.out 0; have hfz80_1 := blk_frozen BK421.out 1) | ((with_reducible refine gate_callee (f := 13) rfl ?_); refine goesL_ (some 46) rfl rfl Try.func13 (by kernel_rfl) rfl #[.agg #[.bool a0_0, .int .i64 a0_1, .int .i64 a0_2, .int .i64 a0_3, .int .i64 a0_4, .int .i64 a0_5, .int .i64 a0_6], .agg #[.int .i64 a1_0, .int .i64 a1_1], .int .i64 (wrap64 (a2 + a3))] rfl (by (try simp only [List.map_toArray, List.map_cons, List.map_nil]); first | done | rfl | (simp only [List.length_drop, List.length_take]; rfl)) ?_; (with_reducible refine (guard_Send.calls kj5 a0_0 a0_1 a0_2 a0_3 a0_4 a0_5 a0_6 a1_0 a1_1 (wrap64 (a2 + a3)) t425 t426 _ A15.out).mono ?_); rintro e w81 ⟨rfl, hb⟩; refine ⟨_, rfl, ?_⟩; have n0_ := Aside0.mk (blk_below (g := gb420) (o := .cells #[.bool a0_0, .int .i64 a0_1, .int .i64 a0_2, .int .i64 a0_3, .int .i64 a0_4, .int .i64 a0_5, .int .i64 a0_6] 25 (0, 0)) (by (with_reducible repeat (first | refine blk_drewN ?_ _ | refine blk_drew ?_ | refine blk_alloc ?_ _)); exact BK420.out) hb); have n1_ := Aside0.mk (blk_below (g := gb421) (o := .cells #[.int .i64 a1_0, .int .i64 a1_1] 27 (0, 0)) (by (with_reducible repeat (first | refine blk_drewN ?_ _ | refine blk_drew ?_ | refine blk_alloc ?_ _)); exact BK421.out) hb); have n2_ := Aside0.mk (below_step (by repeat (first | (with_reducible first | exact HB.out | apply below_alloc | apply pw_below_drewN | apply below_drew1 | refine below_set ?_ GE420.out | refine below_set ?_ GE421.out) | exact HB.out)) hb); clear BK420; clear BK421; clear HB; have BK420 := n0_; have BK421 := n1_; have HB := n2_; clear n0_ n1_ n2_; (try clear hb); (try clear hb2); (try clear hk); (try clear hi)))
                have n0_ := Aside0.mk (blk_drew BK420.out)
                have n1_ := Aside0.mk (blk_drew BK421.out)
                have n2_ := Aside0.mk (below_drew1 HB.out)
                clear BK420
                clear BK421
                clear HB
                have BK420 := n0_
                have BK421 := n1_
                have HB := n2_
                clear n0_ n1_ n2_
                refine start_ (n := 13) (S := fun w' => w'.cell? ⟨gb420, 0, none⟩ = some (.bool a0_0) ∧ w'.cell? ⟨gb420, 1, none⟩ = some (.int .i64 a0_1) ∧ w'.cell? ⟨gb420, 2, none⟩ = some (.int .i64 a0_2) ∧ w'.cell? ⟨gb420, 3, none⟩ = some (.int .i64 a0_3) ∧ w'.cell? ⟨gb420, 4, none⟩ = some (.int .i64 a0_4) ∧ w'.cell? ⟨gb420, 5, none⟩ = some (.int .i64 a0_5) ∧ w'.cell? ⟨gb420, 6, none⟩ = some (.int .i64 a0_6)) (ds := []) #[false, false, false, false, false, false, false, false, false, false, false, false, false] (by kernel_rfl) rfl rfl ⟨(blk_cell BK420.out 0).trans rfl, (blk_cell BK420.out 1).trans rfl, (blk_cell BK420.out 2).trans rfl, (blk_cell BK420.out 3).trans rfl, (blk_cell BK420.out 4).trans rfl, (blk_cell BK420.out 5).trans rfl, (blk_cell BK420.out 6).trans rfl⟩ (fun hHeld => ?_); refine with_tabW slotmeshtop_TopOnceSilent.tab8 slotmeshtop_TopOnceSilent.bits8 (fun HT_ HW_ => ?_)
                generalize w81.drew = w82 at BK420 BK421 HB hHeld ⊢
                refine pure_ (i := 0) (N := some 56) (v := ?_) (a' := ?_) #[true, false, false, false, false, false, false, false, false, false, false, false, false] rfl rfl (any_of HT_.out (by kernel_rfl)) (fun _ _ _ h => h) (Or.inl ⟨by rfl, ?_⟩) ?_ ?_
                rotate_left
                · intro w'
                  go_simp
                  with_reducible rfl
                rotate_left
                · simp only [Act.put, List.setIfInBounds_toArray, List.set_cons_zero, List.set_cons_succ, i64_w, i32_w]
                  rfl
                refine take_ (i := 1) (N := some 57) (v := ?_) (a' := ?_) #[true, true, false, false, false, false, false, false, false, false, false, false, false] rfl rfl (take_ofW HT_.out HW_.out (by kernel_rfl)) (fun _ _ _ h => h) (Or.inl ⟨by rfl, ?_⟩) hHeld ?_ ?_
                rotate_left
                · rintro w' ⟨s0, s1, s2, s3, s4, s5, s6⟩
                  go_simp
                  with_reducible rfl
                rotate_left
                · simp only [Act.put, List.setIfInBounds_toArray, List.set_cons_zero, List.set_cons_succ, i64_w, i32_w]
                  rfl
                refine pure_ (i := 2) (N := some 58) (v := ?_) (a' := ?_) #[true, true, true, false, false, false, false, false, false, false, false, false, false] rfl rfl (any_of HT_.out (by kernel_rfl)) (fun _ _ _ h => h) (Or.inl ⟨by rfl, ?_⟩) ?_ ?_
                rotate_left
                · intro w'
                  go_simp
                  with_reducible rfl
                rotate_left
                · simp only [Act.put, List.setIfInBounds_toArray, List.set_cons_zero, List.set_cons_succ, i64_w, i32_w]
                  rfl
                refine pure_ (i := 3) (N := some 59) (v := ?_) (a' := ?_) #[true, true, true, true, false, false, false, false, false, false, false, false, false] rfl rfl (any_of HT_.out (by kernel_rfl)) (fun _ _ _ h => h) (Or.inl ⟨by rfl, ?_⟩) ?_ ?_
                rotate_left
                · intro w'
                  go_simp
                  with_reducible rfl
                rotate_left
                · simp only [Act.put, List.setIfInBounds_toArray, List.set_cons_zero, List.set_cons_succ, i64_w, i32_w]
                  rfl
                refine pure_ (i := 4) (N := some 60) (v := undef) (a' := ?_) #[true, true, true, true, true, false, false, false, false, false, false, false, false] rfl rfl (any_of HT_.out (by kernel_rfl)) (fun _ _ _ h => h) (Or.inr ⟨by rfl, rfl⟩) ?_ ?_
                rotate_left
                · simp only [Act.put, List.setIfInBounds_toArray, List.set_cons_zero, List.set_cons_succ, i64_w, i32_w]
                  rfl
                refine pure_ (i := 5) (N := some 61) (v := undef) (a' := ?_) #[true, true, true, true, true, true, false, false, false, false, false, false, false] rfl rfl (any_of HT_.out (by kernel_rfl)) (fun _ _ _ h => h) (Or.inr ⟨by rfl, rfl⟩) ?_ ?_
                rotate_left
                · simp only [Act.put, List.setIfInBounds_toArray, List.set_cons_zero, List.set_cons_succ, i64_w, i32_w]
                  rfl
                refine pure_ (i := 6) (N := some 62) (v := undef) (a' := ?_) #[true, true, true, true, true, true, true, false, false, false, false, false, false] rfl rfl (any_of HT_.out (by kernel_rfl)) (fun _ _ _ h => h) (Or.inr ⟨by rfl, rfl⟩) ?_ ?_
                rotate_left
                · simp only [Act.put, List.setIfInBounds_toArray, List.set_cons_zero, List.set_cons_succ, i64_w, i32_w]
                  rfl
                refine pure_ (i := 7) (N := some 63) (v := undef) (a' := ?_) #[true, true, true, true, true, true, true, true, false, false, false, false, false] rfl rfl (any_of HT_.out (by kernel_rfl)) (fun _ _ _ h => h) (Or.inr ⟨by rfl, rfl⟩) ?_ ?_
                rotate_left
                · simp only [Act.put, List.setIfInBounds_toArray, List.set_cons_zero, List.set_cons_succ, i64_w, i32_w]
                  rfl
                refine pure_ (i := 8) (N := some 64) (v := undef) (a' := ?_) #[true, true, true, true, true, true, true, true, true, false, false, false, false] rfl rfl (any_of HT_.out (by kernel_rfl)) (fun _ _ _ h => h) (Or.inr ⟨by rfl, rfl⟩) ?_ ?_
                rotate_left
                · simp only [Act.put, List.setIfInBounds_toArray, List.set_cons_zero, List.set_cons_succ, i64_w, i32_w]
                  rfl
                refine pure_ (i := 9) (N := some 65) (v := undef) (a' := ?_) #[true, true, true, true, true, true, true, true, true, true, false, false, false] rfl rfl (any_of HT_.out (by kernel_rfl)) (fun _ _ _ h => h) (Or.inr ⟨by rfl, rfl⟩) ?_ ?_
                rotate_left
                · simp only [Act.put, List.setIfInBounds_toArray, List.set_cons_zero, List.set_cons_succ, i64_w, i32_w]
                  rfl
                refine pure_ (i := 10) (N := some 66) (v := undef) (a' := ?_) #[true, true, true, true, true, true, true, true, true, true, true, false, false] rfl rfl (any_of HT_.out (by kernel_rfl)) (fun _ _ _ h => h) (Or.inr ⟨by rfl, rfl⟩) ?_ ?_
                rotate_left
                · simp only [Act.put, List.setIfInBounds_toArray, List.set_cons_zero, List.set_cons_succ, i64_w, i32_w]
                  rfl
                refine pure_ (i := 11) (N := some 67) (v := ?_) (a' := ?_) #[true, true, true, true, true, true, true, true, true, true, true, true, false] rfl rfl (any_of HT_.out (by kernel_rfl)) (fun _ _ _ h => h) (Or.inl ⟨by rfl, ?_⟩) ?_ ?_
                rotate_left
                · intro w'
                  go_simp
                  with_reducible rfl
                rotate_left
                · simp only [Act.put, List.setIfInBounds_toArray, List.set_cons_zero, List.set_cons_succ, i64_w, i32_w]
                  rfl
                refine pure_ (i := 12) (N := some 14) (v := ?_) (a' := ?_) #[true, true, true, true, true, true, true, true, true, true, true, true, true] rfl rfl (any_of HT_.out (by kernel_rfl)) (fun _ _ _ h => h) (Or.inl ⟨by rfl, ?_⟩) ?_ ?_
                rotate_left
                · intro w'
                  go_simp
                  with_reducible rfl
                rotate_left
                · simp only [Act.put, List.setIfInBounds_toArray, List.set_cons_zero, List.set_cons_succ, i64_w, i32_w]
                  rfl
                refine done_ (done_of HT_.out (by kernel_rfl)) ?_
                try go_wp2
                go_ret
                exact ⟨by first | rfl | (simp [errW_none, errW_some] <;> rfl) | (simp [*, errW_none, errW_some] <;> rfl), by repeat (first | (with_reducible first | exact HB.out | apply below_alloc | apply pw_below_drewN | apply below_drew1 | refine below_set ?_ GE420.out | refine below_set ?_ GE421.out) | exact HB.out)⟩
              · rw [if_neg c74] at H
                have c74b0 : (t426 == 0) = false := beq_eq_false_iff_ne.mpr c74
                have c74b1 : (t426 != 0) = true := bne_iff_ne.mpr c74
                obtain rfl := Option.some.inj H
                have hnb83 := NB420_421.out
                have hnc83 := NB421_420.out
                have hcz84_0 : wc.cell? ⟨gb420, 0, none⟩ = some (.bool a0_0) := (blk_cell BK420.out 0).trans rfl
                have hcz84_1 : wc.cell? ⟨gb420, 1, none⟩ = some (.int .i64 a0_1) := (blk_cell BK420.out 1).trans rfl
                have hcz84_2 : wc.cell? ⟨gb420, 2, none⟩ = some (.int .i64 a0_2) := (blk_cell BK420.out 2).trans rfl
                have hcz84_3 : wc.cell? ⟨gb420, 3, none⟩ = some (.int .i64 a0_3) := (blk_cell BK420.out 3).trans rfl
                have hcz84_4 : wc.cell? ⟨gb420, 4, none⟩ = some (.int .i64 a0_4) := (blk_cell BK420.out 4).trans rfl
                have hcz84_5 : wc.cell? ⟨gb420, 5, none⟩ = some (.int .i64 a0_5) := (blk_cell BK420.out 5).trans rfl
                have hcz84_6 : wc.cell? ⟨gb420, 6, none⟩ = some (.int .i64 a0_6) := (blk_cell BK420.out 6).trans rfl
                have hfz84_0 := blk_frozen BK420.out 0
                have hfz84_1 := blk_frozen BK420.out 1
                have hfz84_2 := blk_frozen BK420.out 2
                have hfz84_3 := blk_frozen BK420.out 3
                have hfz84_4 := blk_frozen BK420.out 4
                have hfz84_5 := blk_frozen BK420.out 5
                have hfz84_6 := blk_frozen BK420.out 6
                have hcz85_0 : wc.cell? ⟨gb421, 0, none⟩ = some (.int .i64 a1_0) := (blk_cell BK421.out 0).trans rfl
                have hcz85_1 : wc.cell? ⟨gb421, 1, none⟩ = some (.int .i64 a1_1) := (blk_cell BK421.out 1).trans rfl
                have hfz85_0 := blk_frozen BK421.out 0
                have hfz85_1 := blk_frozen BK421.out 1
                try go_wp2_with (first | ((with_reducible refine gate_callee (f := 13) rfl ?_); refine goesL_ (some 37) rfl rfl Try.func13 (by kernel_rfl) rfl #[.agg #[.bool a0_0, .int .i64 a0_1, .int .i64 a0_2, .int .i64 a0_3, .int .i64 a0_4, .int .i64 a0_5, .int .i64 a0_6], .agg #[.int .i64 a1_0, .int .i64 a1_1], .int .i64 a2] rfl (by (try simp only [List.map_toArray, List.map_cons, List.map_nil]); first | done | rfl | (simp only [List.length_drop, List.length_take]; rfl)) ?_; (with_reducible refine (guard_Send.calls kj5 a0_0 a0_1 a0_2 a0_3 a0_4 a0_5 a0_6 a1_0 a1_1 a2 t423 t424 _ A14.out).mono ?_); rintro e w86 ⟨rfl, hb⟩; refine ⟨_, rfl, ?_⟩; have n0_ := Aside0.mk (blk_below (g := gb420) (o := .cells #[.bool a0_0, .int .i64 a0_1, .int .i64 a0_2, .int .i64 a0_3, .int .i64 a0_4, .int .i64 a0_5, .int .i64 a0_6] 25 (0, 0)) (by (with_reducible repeat (first | refine blk_drewN ?_ _ | refine blk_drew ?_ | refine blk_alloc ?_ _)); exact BK420.out) hb); have n1_ := Aside0.mk (blk_below (g := gb421) (o := .cells #[.int .i64 a1_0, .int .i64 a1_1] 27 (0, 0)) (by (with_reducible repeat (first | refine blk_drewN ?_ _ | refine blk_drew ?_ | refine blk_alloc ?_ _)); exact BK421.out) hb); have n2_ := Aside0.mk (below_step (by repeat (first | (with_reducible first | exact HB.out | apply below_alloc | apply pw_below_drewN | apply below_drew1 | refine below_set ?_ GE420.out | refine below_set ?_ GE421.out) | exact HB.out)) hb); clear BK420; clear BK421; clear HB; have BK420 := n0_; have BK421 := n1_; have HB := n2_; clear n0_ n1_ n2_; (try clear hb); (try clear hb2); (try clear hk); (try clear hi); have hcz87_0 : w86.cell? ⟨gb420, 0, none⟩ = some (.bool a0_0) := (blk_cell BK420.out 0).trans rfl; have hcz87_1 : w86.cell? ⟨gb420, 1, none⟩ = some (.int .i64 a0_1) := (blk_cell BK420.out 1).trans rfl; have hcz87_2 : w86.cell? ⟨gb420, 2, none⟩ = some (.int .i64 a0_2) := (blk_cell BK420.out 2).trans rfl; have hcz87_3 : w86.cell? ⟨gb420, 3, none⟩ = some (.int .i64 a0_3) := (blk_cell BK420.out 3).trans rfl; have hcz87_4 : w86.cell? ⟨gb420, 4, none⟩ = some (.int .i64 a0_4) := (blk_cell BK420.out 4).trans rfl; have hcz87_5 : w86.cell? ⟨gb420, 5, none⟩ = some (.int .i64 a0_5) := (blk_cell BK420.out 5).trans rfl; have hcz87_6 : w86.cell? ⟨gb420, 6, none⟩ = some (.int .i64 a0_6) := (blk_cell BK420.out 6).trans rfl; have hfz87_0 := blk_frozen BK420.out 0; have hfz87_1 := blk_frozen BK420.out 1; have hfz87_2 := blk_frozen BK420.out 2; have hfz87_3 := blk_frozen BK420.out 3; have hfz87_4 := blk_frozen BK420.out 4; have hfz87_5 := blk_frozen BK420.out 5; have hfz87_6 := blk_frozen BK420.out 6; have hcz88_0 : w86.cell? ⟨gb421, 0, none⟩ = some (.int .i64 a1_0) := (blk_cell BK421.out 0).trans rfl; have hcz88_1 : w86.cell? ⟨gb421, 1, none⟩ = some (.int .i64 a1_1) := (blk_cell BK421.out 1).trans rfl; have hfz88_0 := blk_frozen BK421.out 0; have hfz88_1 := blk_frozen BK421.out 1) | ((with_reducible refine gate_callee (f := 13) rfl ?_); refine goesL_ (some 46) rfl rfl Try.func13 (by kernel_rfl) rfl #[.agg #[.bool a0_0, .int .i64 a0_1, .int .i64 a0_2, .int .i64 a0_3, .int .i64 a0_4, .int .i64 a0_5, .int .i64 a0_6], .agg #[.int .i64 a1_0, .int .i64 a1_1], .int .i64 (wrap64 (a2 + a3))] rfl (by (try simp only [List.map_toArray, List.map_cons, List.map_nil]); first | done | rfl | (simp only [List.length_drop, List.length_take]; rfl)) ?_; (with_reducible refine (guard_Send.calls kj5 a0_0 a0_1 a0_2 a0_3 a0_4 a0_5 a0_6 a1_0 a1_1 (wrap64 (a2 + a3)) t425 t426 _ A15.out).mono ?_); rintro e w89 ⟨rfl, hb⟩; refine ⟨_, rfl, ?_⟩; have n0_ := Aside0.mk (blk_below (g := gb420) (o := .cells #[.bool a0_0, .int .i64 a0_1, .int .i64 a0_2, .int .i64 a0_3, .int .i64 a0_4, .int .i64 a0_5, .int .i64 a0_6] 25 (0, 0)) (by (with_reducible repeat (first | refine blk_drewN ?_ _ | refine blk_drew ?_ | refine blk_alloc ?_ _)); exact BK420.out) hb); have n1_ := Aside0.mk (blk_below (g := gb421) (o := .cells #[.int .i64 a1_0, .int .i64 a1_1] 27 (0, 0)) (by (with_reducible repeat (first | refine blk_drewN ?_ _ | refine blk_drew ?_ | refine blk_alloc ?_ _)); exact BK421.out) hb); have n2_ := Aside0.mk (below_step (by repeat (first | (with_reducible first | exact HB.out | apply below_alloc | apply pw_below_drewN | apply below_drew1 | refine below_set ?_ GE420.out | refine below_set ?_ GE421.out) | exact HB.out)) hb); clear BK420; clear BK421; clear HB; have BK420 := n0_; have BK421 := n1_; have HB := n2_; clear n0_ n1_ n2_; (try clear hb); (try clear hb2); (try clear hk); (try clear hi)))
                have n0_ := Aside0.mk (blk_drew BK420.out)
                have n1_ := Aside0.mk (blk_drew BK421.out)
                have n2_ := Aside0.mk (below_drew1 HB.out)
                clear BK420
                clear BK421
                clear HB
                have BK420 := n0_
                have BK421 := n1_
                have HB := n2_
                clear n0_ n1_ n2_
                refine start_ (n := 13) (S := fun w' => w'.cell? ⟨gb420, 0, none⟩ = some (.bool a0_0) ∧ w'.cell? ⟨gb420, 1, none⟩ = some (.int .i64 a0_1) ∧ w'.cell? ⟨gb420, 2, none⟩ = some (.int .i64 a0_2) ∧ w'.cell? ⟨gb420, 3, none⟩ = some (.int .i64 a0_3) ∧ w'.cell? ⟨gb420, 4, none⟩ = some (.int .i64 a0_4) ∧ w'.cell? ⟨gb420, 5, none⟩ = some (.int .i64 a0_5) ∧ w'.cell? ⟨gb420, 6, none⟩ = some (.int .i64 a0_6)) (ds := []) #[false, false, false, false, false, false, false, false, false, false, false, false, false] (by kernel_rfl) rfl rfl ⟨(blk_cell BK420.out 0).trans rfl, (blk_cell BK420.out 1).trans rfl, (blk_cell BK420.out 2).trans rfl, (blk_cell BK420.out 3).trans rfl, (blk_cell BK420.out 4).trans rfl, (blk_cell BK420.out 5).trans rfl, (blk_cell BK420.out 6).trans rfl⟩ (fun hHeld => ?_); refine with_tabW slotmeshtop_TopOnceSilent.tab8 slotmeshtop_TopOnceSilent.bits8 (fun HT_ HW_ => ?_)
                generalize w89.drew = w90 at BK420 BK421 HB hHeld ⊢
                refine pure_ (i := 0) (N := some 56) (v := ?_) (a' := ?_) #[true, false, false, false, false, false, false, false, false, false, false, false, false] rfl rfl (any_of HT_.out (by kernel_rfl)) (fun _ _ _ h => h) (Or.inl ⟨by rfl, ?_⟩) ?_ ?_
                rotate_left
                · intro w'
                  go_simp
                  with_reducible rfl
                rotate_left
                · simp only [Act.put, List.setIfInBounds_toArray, List.set_cons_zero, List.set_cons_succ, i64_w, i32_w]
                  rfl
                refine take_ (i := 1) (N := some 57) (v := ?_) (a' := ?_) #[true, true, false, false, false, false, false, false, false, false, false, false, false] rfl rfl (take_ofW HT_.out HW_.out (by kernel_rfl)) (fun _ _ _ h => h) (Or.inl ⟨by rfl, ?_⟩) hHeld ?_ ?_
                rotate_left
                · rintro w' ⟨s0, s1, s2, s3, s4, s5, s6⟩
                  go_simp
                  with_reducible rfl
                rotate_left
                · simp only [Act.put, List.setIfInBounds_toArray, List.set_cons_zero, List.set_cons_succ, i64_w, i32_w]
                  rfl
                refine pure_ (i := 2) (N := some 58) (v := ?_) (a' := ?_) #[true, true, true, false, false, false, false, false, false, false, false, false, false] rfl rfl (any_of HT_.out (by kernel_rfl)) (fun _ _ _ h => h) (Or.inl ⟨by rfl, ?_⟩) ?_ ?_
                rotate_left
                · intro w'
                  go_simp
                  with_reducible rfl
                rotate_left
                · simp only [Act.put, List.setIfInBounds_toArray, List.set_cons_zero, List.set_cons_succ, i64_w, i32_w]
                  rfl
                refine pure_ (i := 3) (N := some 59) (v := ?_) (a' := ?_) #[true, true, true, true, false, false, false, false, false, false, false, false, false] rfl rfl (any_of HT_.out (by kernel_rfl)) (fun _ _ _ h => h) (Or.inl ⟨by rfl, ?_⟩) ?_ ?_
                rotate_left
                · intro w'
                  go_simp
                  with_reducible rfl
                rotate_left
                · simp only [Act.put, List.setIfInBounds_toArray, List.set_cons_zero, List.set_cons_succ, i64_w, i32_w]
                  rfl
                refine pure_ (i := 4) (N := some 60) (v := undef) (a' := ?_) #[true, true, true, true, true, false, false, false, false, false, false, false, false] rfl rfl (any_of HT_.out (by kernel_rfl)) (fun _ _ _ h => h) (Or.inr ⟨by rfl, rfl⟩) ?_ ?_
                rotate_left
                · simp only [Act.put, List.setIfInBounds_toArray, List.set_cons_zero, List.set_cons_succ, i64_w, i32_w]
                  rfl
                refine pure_ (i := 5) (N := some 61) (v := undef) (a' := ?_) #[true, true, true, true, true, true, false, false, false, false, false, false, false] rfl rfl (any_of HT_.out (by kernel_rfl)) (fun _ _ _ h => h) (Or.inr ⟨by rfl, rfl⟩) ?_ ?_
                rotate_left
                · simp only [Act.put, List.setIfInBounds_toArray, List.set_cons_zero, List.set_cons_succ, i64_w, i32_w]
                  rfl
                refine pure_ (i := 6) (N := some 62) (v := undef) (a' := ?_) #[true, true, true, true, true, true, true, false, false, false, false, false, false] rfl rfl (any_of HT_.out (by kernel_rfl)) (fun _ _ _ h => h) (Or.inr ⟨by rfl, rfl⟩) ?_ ?_
                rotate_left
                · simp only [Act.put, List.setIfInBounds_toArray, List.set_cons_zero, List.set_cons_succ, i64_w, i32_w]
                  rfl
                refine pure_ (i := 7) (N := some 63) (v := undef) (a' := ?_) #[true, true, true, true, true, true, true, true, false, false, false, false, false] rfl rfl (any_of HT_.out (by kernel_rfl)) (fun _ _ _ h => h) (Or.inr ⟨by rfl, rfl⟩) ?_ ?_
                rotate_left
                · simp only [Act.put, List.setIfInBounds_toArray, List.set_cons_zero, List.set_cons_succ, i64_w, i32_w]
                  rfl
                refine pure_ (i := 8) (N := some 64) (v := undef) (a' := ?_) #[true, true, true, true, true, true, true, true, true, false, false, false, false] rfl rfl (any_of HT_.out (by kernel_rfl)) (fun _ _ _ h => h) (Or.inr ⟨by rfl, rfl⟩) ?_ ?_
                rotate_left
                · simp only [Act.put, List.setIfInBounds_toArray, List.set_cons_zero, List.set_cons_succ, i64_w, i32_w]
                  rfl
                refine pure_ (i := 9) (N := some 65) (v := undef) (a' := ?_) #[true, true, true, true, true, true, true, true, true, true, false, false, false] rfl rfl (any_of HT_.out (by kernel_rfl)) (fun _ _ _ h => h) (Or.inr ⟨by rfl, rfl⟩) ?_ ?_
                rotate_left
                · simp only [Act.put, List.setIfInBounds_toArray, List.set_cons_zero, List.set_cons_succ, i64_w, i32_w]
                  rfl
                refine pure_ (i := 10) (N := some 66) (v := undef) (a' := ?_) #[true, true, true, true, true, true, true, true, true, true, true, false, false] rfl rfl (any_of HT_.out (by kernel_rfl)) (fun _ _ _ h => h) (Or.inr ⟨by rfl, rfl⟩) ?_ ?_
                rotate_left
                · simp only [Act.put, List.setIfInBounds_toArray, List.set_cons_zero, List.set_cons_succ, i64_w, i32_w]
                  rfl
                refine pure_ (i := 11) (N := some 67) (v := ?_) (a' := ?_) #[true, true, true, true, true, true, true, true, true, true, true, true, false] rfl rfl (any_of HT_.out (by kernel_rfl)) (fun _ _ _ h => h) (Or.inl ⟨by rfl, ?_⟩) ?_ ?_
                rotate_left
                · intro w'
                  go_simp
                  with_reducible rfl
                rotate_left
                · simp only [Act.put, List.setIfInBounds_toArray, List.set_cons_zero, List.set_cons_succ, i64_w, i32_w]
                  rfl
                refine pure_ (i := 12) (N := some 14) (v := ?_) (a' := ?_) #[true, true, true, true, true, true, true, true, true, true, true, true, true] rfl rfl (any_of HT_.out (by kernel_rfl)) (fun _ _ _ h => h) (Or.inl ⟨by rfl, ?_⟩) ?_ ?_
                rotate_left
                · intro w'
                  go_simp
                  with_reducible rfl
                rotate_left
                · simp only [Act.put, List.setIfInBounds_toArray, List.set_cons_zero, List.set_cons_succ, i64_w, i32_w]
                  rfl
                refine done_ (done_of HT_.out (by kernel_rfl)) ?_
                try go_wp2
                go_ret
                exact ⟨by first | rfl | (simp [errW_none, errW_some] <;> rfl) | (simp [*, errW_none, errW_some] <;> rfl), by repeat (first | (with_reducible first | exact HB.out | apply below_alloc | apply pw_below_drewN | apply below_drew1 | refine below_set ?_ GE420.out | refine below_set ?_ GE421.out) | exact HB.out)⟩
            · replace c73 := Bool.eq_false_iff.mpr c73
              subst c73
              have H1 : (none) = some r := by rw [if_neg (show ¬ (false = true) by decide)] at H; exact H
              clear H
              have H := H1
              clear H1
              exact absurd H (by simp)
end Go.Proofs.Ytdpihbhkghjclaa.P
end
