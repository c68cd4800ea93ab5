/- A claim's own texts, laid together by wip/zip.py without what the claim does not use. Conditions: none. -/
import Derived.Test.YtkbfhonoamgjgaaZbpx0
import Derived.Test.YtkbfhonoamgjgaaZbpx1
import Derived.Test.YtkbfhonoamgjgaaZbpx5
import Derived.Test.YtkbfhonoamgjgaaZbpx12
import Derived.Test.YtkbfhonoamgjgaaZbpx13
import Derived.Test.YtkbfhonoamgjgaaZbpx18
import Derived.Test.YtkbfhonoamgjgaaZbpx20
import Derived.Test.YtkbfhonoamgjgaaZbpx23
section
/- The Go functions of this claim as Lean functions, and the proofs that their calls answer so: written by wip/myprint.py over the kit's printer, hand-proved contracts laid in. Conditions: none. -/
namespace Go.Proofs.Ytkbfhonoamgjgaa.P
open Go.RowKit Go.Proofs.YtkbfhonoamgjgaaW.PrintWords Go.Proofs.YtkbfhonoamgjgaaW.PrintLast Go.Proofs.YtkbfhonoamgjgaaW.PrintMore
attribute [local go_sem] max2_int min2_int max_two min_two max_three min_three max_four min_four   -- for this text's walks alone
set_option linter.unusedVariables false
set_option linter.unusedSimpArgs false
attribute [local go_sem high] eqA25
/-! ### slotmeshlaw09_TimesyncBetter: function 6 -/
mutual
def slotmeshlaw09_TimesyncBetter.j0 : Nat → Bool → Bool → Bool → Int → Int → Int → Int → Int → Int → Int → Int → Int → Int → Int → Option (Bool)
  | 0, _, _, _, _, _, _, _, _, _, _, _, _, _, _ => none
  | k + 1, x5, x28, x397000, x397001, x397002, x397003, x397004, x397005, x397006, x398000, x398001, x398002, x398003, x398004 => if x28 = true then (some x5) else ((timesync_Hear.f k x397000 x397001 x397002 x397003 x397004 x397005 x397006 x398000 x398001 x398002 x398003 x398004).bind fun bt401 => (if bt401.2.2.2.2.2.2.2 = 0 then (slotmeshlaw09_TimesyncBetter.j1 k x5 (bt401.1 == x397000 && ((bt401.2.1 == x397001 && (bt401.2.2.1 == x397002 && (bt401.2.2.2.1 == x397003))) && (bt401.2.2.2.2.1 == x397004 && (bt401.2.2.2.2.2.1 == x397005 && (bt401.2.2.2.2.2.2.1 == x397006))))) x397000 x397001 x397002 x397003 x397004 x397005 x397006 x398000 x398001 x398002 x398003 x398004 bt401.1 bt401.2.1 bt401.2.2.1 bt401.2.2.2.1 bt401.2.2.2.2.1 bt401.2.2.2.2.2.1 bt401.2.2.2.2.2.2.1) else (slotmeshlaw09_TimesyncBetter.j1 k x5 true x397000 x397001 x397002 x397003 x397004 x397005 x397006 x398000 x398001 x398002 x398003 x398004 bt401.1 bt401.2.1 bt401.2.2.1 bt401.2.2.2.1 bt401.2.2.2.2.1 bt401.2.2.2.2.2.1 bt401.2.2.2.2.2.2.1)))
def slotmeshlaw09_TimesyncBetter.j1 : Nat → Bool → Bool → Bool → Int → Int → Int → Int → Int → Int → Int → Int → Int → Int → Int → Bool → Int → Int → Int → Int → Int → Int → Option (Bool)
  | 0, _, _, _, _, _, _, _, _, _, _, _, _, _, _, _, _, _, _, _, _, _ => none
  | k + 1, x5, x42, x397000, x397001, x397002, x397003, x397004, x397005, x397006, x398000, x398001, x398002, x398003, x398004, x410000, x410001, x410002, x410003, x410004, x410005, x410006 => if x42 = true then (some x5) else ((bound_Heard.f k x398000 x398001 x398002 x398003 x398004).bind fun bt410 => (if bt410.2.2.2 = 0 then ((some (([(⟨x397001, x397002, x397003⟩ : S23), (⟨bt410.1, bt410.2.1, bt410.2.2.1⟩ : S23)] : List (S23)) : List (S23))).bind fun y415 => (slotmeshlaw09_TimesyncBetter.l0 k x5 y415 (y415.length : Int) 0 x397000 x397001 x397002 x397003 x397004 x397005 x397006 x410000 x410001 x410002 x410003 x410004 x410005 x410006 bt410.1 bt410.2.1 bt410.2.2.1)) else (none)))
def slotmeshlaw09_TimesyncBetter.l0 : Nat → Bool → List (S23) → Int → Int → Bool → Int → Int → Int → Int → Int → Int → Bool → Int → Int → Int → Int → Int → Int → Int → Int → Int → Option (Bool)
  | 0, _, _, _, _, _, _, _, _, _, _, _, _, _, _, _, _, _, _, _, _, _ => none
  | k + 1, x5, x54, x55, x56, x397000, x397001, x397002, x397003, x397004, x397005, x397006, x410000, x410001, x410002, x410003, x410004, x410005, x410006, x415000, x415001, x415002 => if x56 < x55 then (if 0 ≤ x56 then (if x56 < (x54.length : Int) then (if ((rd_T23 x54 x56).f2) = x410003 then (if x397003 = x415002 then ((bound_Grow.f k ((rd_T23 x54 x56).f0) ((rd_T23 x54 x56).f1) ((rd_T23 x54 x56).f2) ((rd_T23 x54 x56).f2)).bind fun bt420 => (if bt420.2.2.2 = 0 then (if x410001 < bt420.1 then (none) else (if x410002 > bt420.2.1 then (none) else (slotmeshlaw09_TimesyncBetter.l0 k x5 x54 x55 (wrap64 (x56 + 1)) x397000 x397001 x397002 x397003 x397004 x397005 x397006 x410000 x410001 x410002 x410003 x410004 x410005 x410006 x415000 x415001 x415002))) else (none))) else (if x410001 < ((rd_T23 x54 x56).f0) then (none) else (if x410002 > ((rd_T23 x54 x56).f1) then (none) else (slotmeshlaw09_TimesyncBetter.l0 k x5 x54 x55 (wrap64 (x56 + 1)) x397000 x397001 x397002 x397003 x397004 x397005 x397006 x410000 x410001 x410002 x410003 x410004 x410005 x410006 x415000 x415001 x415002)))) else ((bound_Grow.f k ((rd_T23 x54 x56).f0) ((rd_T23 x54 x56).f1) ((rd_T23 x54 x56).f2) x410003).bind fun bt425 => (if bt425.2.2.2 = 0 then (if x410001 < bt425.1 then (none) else (if x410002 > bt425.2.1 then (none) else (slotmeshlaw09_TimesyncBetter.l0 k x5 x54 x55 (wrap64 (x56 + 1)) x397000 x397001 x397002 x397003 x397004 x397005 x397006 x410000 x410001 x410002 x410003 x410004 x410005 x410006 x415000 x415001 x415002))) else (none)))) else (none)) else (none)) else (if x5 = true then (some (x410003 == (mx x397003 x415002))) else (none))
end
def slotmeshlaw09_TimesyncBetter.f (k : Nat) (a0_0 : Bool) (a0_1 : Int) (a0_2 : Int) (a0_3 : Int) (a0_4 : Int) (a0_5 : Int) (a0_6 : Int) (a1_0 : Int) (a1_1 : Int) (a1_2 : Int) (a1_3 : Int) (a1_4 : Int) : Option (Bool) := (slotmeshlaw09_head.f k).bind fun t398 => ((slotmeshref09_Valid.f k a0_0 a0_1 a0_2 a0_3 a0_4 a0_5 a0_6).bind fun t399 => (if t399 = true then (if a0_0 = true then ((slotmeshref09_Root.f a0_0 a0_1 a0_2 a0_3 a0_4 a0_5 a0_6).bind fun t400 => (slotmeshlaw09_TimesyncBetter.j0 k t398 t400 a0_0 a0_1 a0_2 a0_3 a0_4 a0_5 a0_6 a1_0 a1_1 a1_2 a1_3 a1_4)) else (slotmeshlaw09_TimesyncBetter.j0 k t398 true a0_0 a0_1 a0_2 a0_3 a0_4 a0_5 a0_6 a1_0 a1_1 a1_2 a1_3 a1_4)) else (slotmeshlaw09_TimesyncBetter.j0 k t398 true a0_0 a0_1 a0_2 a0_3 a0_4 a0_5 a0_6 a1_0 a1_1 a1_2 a1_3 a1_4)))
set_option maxHeartbeats 8000000 in
set_option maxRecDepth 100000 in
theorem slotmeshlaw09_TimesyncBetter.calls (k : Nat) (a0_0 : Bool) (a0_1 : Int) (a0_2 : Int) (a0_3 : Int) (a0_4 : Int) (a0_5 : Int) (a0_6 : Int) (a1_0 : Int) (a1_1 : Int) (a1_2 : Int) (a1_3 : Int) (a1_4 : Int) (r : Bool) (w : World) (h : slotmeshlaw09_TimesyncBetter.f k a0_0 a0_1 a0_2 a0_3 a0_4 a0_5 a0_6 a1_0 a1_1 a1_2 a1_3 a1_4 = some r) :
    Calls Try.prog 6 #[.agg #[.bool a0_0, .int .i64 a0_1, .int .i64 a0_2, .int .i64 a0_3, .int .i64 a0_4, .int .i64 a0_5, .int .i64 a0_6], .agg #[.int .i64 a1_0, .int .i64 a1_1, .int .i64 a1_2, .int .i64 a1_3, .int .i64 a1_4]] w fun e w' => e = .returned (.bool r) ∧ Below w.heap.size w w' := by
  have hu25 := Try.underlying25
  have hu27 := Try.underlying27
  have hu23 := Try.underlying23
  have HB := Aside0.mk (Below.refl w.heap.size w)
  have H : ((slotmeshlaw09_head.f k).bind fun t398 => ((slotmeshref09_Valid.f k a0_0 a0_1 a0_2 a0_3 a0_4 a0_5 a0_6).bind fun t399 => (if t399 = true then (if a0_0 = true then ((slotmeshref09_Root.f a0_0 a0_1 a0_2 a0_3 a0_4 a0_5 a0_6).bind fun t400 => (slotmeshlaw09_TimesyncBetter.j0 k t398 t400 a0_0 a0_1 a0_2 a0_3 a0_4 a0_5 a0_6 a1_0 a1_1 a1_2 a1_3 a1_4)) else (slotmeshlaw09_TimesyncBetter.j0 k t398 true a0_0 a0_1 a0_2 a0_3 a0_4 a0_5 a0_6 a1_0 a1_1 a1_2 a1_3 a1_4)) else (slotmeshlaw09_TimesyncBetter.j0 k t398 true a0_0 a0_1 a0_2 a0_3 a0_4 a0_5 a0_6 a1_0 a1_1 a1_2 a1_3 a1_4)))) = some r := h
  clear h
  replace H := Option.bind_eq_some_iff.mp H
  obtain ⟨t398, A30, H⟩ := H
  replace H : ((slotmeshref09_Valid.f k a0_0 a0_1 a0_2 a0_3 a0_4 a0_5 a0_6).bind fun t399 => (if t399 = true then (if a0_0 = true then ((slotmeshref09_Root.f a0_0 a0_1 a0_2 a0_3 a0_4 a0_5 a0_6).bind fun t400 => (slotmeshlaw09_TimesyncBetter.j0 k t398 t400 a0_0 a0_1 a0_2 a0_3 a0_4 a0_5 a0_6 a1_0 a1_1 a1_2 a1_3 a1_4)) else (slotmeshlaw09_TimesyncBetter.j0 k t398 true a0_0 a0_1 a0_2 a0_3 a0_4 a0_5 a0_6 a1_0 a1_1 a1_2 a1_3 a1_4)) else (slotmeshlaw09_TimesyncBetter.j0 k t398 true a0_0 a0_1 a0_2 a0_3 a0_4 a0_5 a0_6 a1_0 a1_1 a1_2 a1_3 a1_4))) = some r := H
  have A3 := Aside0.mk A30
  clear A30
  have HC4 := Aside0.mk H
  clear H
  go_enter Try.func6, Try.ntmps6
  go_upto_region 2 with (first | ((with_reducible refine gate_dst (N := 2) rfl ?_); (try (refine gate_guard (by rfl) ?_; dsimp only)); refine box_event ?hg (N := 2) ?hd (cs := #[.bool a0_0, .int .i64 a0_1, .int .i64 a0_2, .int .i64 a0_3, .int .i64 a0_4, .int .i64 a0_5, .int .i64 a0_6]) (t := 25) ?hr ?_; (case hd => rfl); (case hg => rfl); (case hr => first | (go_simp; done) | (go_simp; rfl)); intro gb396 hg w5 hbox hb; have n0_ := Aside0.mk (below_step (by repeat (first | (with_reducible first | exact HB.out | apply below_alloc | apply pw_below_drewN | apply below_drew1) | exact HB.out)) hb); have n1_ := Aside0.mk (hbox); have n2_ := Aside0.mk ((by rw [hg]; exact (below_size (by repeat (first | (with_reducible first | exact HB.out | apply below_alloc | apply pw_below_drewN | apply below_drew1) | exact HB.out))) : w.heap.size ≤ gb396)); have n3_ := Aside0.mk ((by rw [hg]; exact (below_size (by repeat (first | (with_reducible first | exact HB.out | apply below_alloc | apply pw_below_drewN | apply below_drew1) | exact HB.out))) : w.heap.size ≤ gb396)); clear HB; have HB := n0_; have BK396 := n1_; have GW396 := n2_; have GE396 := n3_; clear n0_ n1_ n2_ n3_; clear hb hbox hg) | ((with_reducible refine gate_dst (N := 3) rfl ?_); (try (refine gate_guard (by rfl) ?_; dsimp only)); refine box_event ?hg (N := 3) ?hd (cs := #[.int .i64 a1_0, .int .i64 a1_1, .int .i64 a1_2, .int .i64 a1_3, .int .i64 a1_4]) (t := 27) ?hr ?_; (case hd => rfl); (case hg => rfl); (case hr => first | (go_simp; done) | (go_simp; rfl)); intro gb397 hg w6 hbox hb; have n0_ := Aside0.mk (blk_below (g := gb396) (o := .cells #[.bool a0_0, .int .i64 a0_1, .int .i64 a0_2, .int .i64 a0_3, .int .i64 a0_4, .int .i64 a0_5, .int .i64 a0_6] 25 (0, 0)) (by (with_reducible repeat (first | refine blk_drewN ?_ _ | refine blk_drew ?_ | refine blk_alloc ?_ _)); exact BK396.out) hb); have n1_ := Aside0.mk (below_step (by repeat (first | (with_reducible first | exact HB.out | apply below_alloc | apply pw_below_drewN | apply below_drew1 | refine below_set ?_ GE396.out) | exact HB.out)) hb); have n2_ := Aside0.mk (hbox); have n3_ := Aside0.mk ((by rw [hg]; exact (below_size (by repeat (first | (with_reducible first | exact HB.out | apply below_alloc | apply pw_below_drewN | apply below_drew1 | refine below_set ?_ GE396.out) | exact HB.out))) : w.heap.size ≤ gb397)); have n4_ := Aside0.mk ((by rw [hg]; exact (below_size (by repeat (first | (with_reducible first | exact HB.out | apply below_alloc | apply pw_below_drewN | apply below_drew1 | refine below_set ?_ GE396.out) | exact HB.out))) : w.heap.size ≤ gb397)); have n5_ := Aside0.mk ((by rw [hg]; exact Nat.ne_of_lt (blk_lt (g := gb396) (o := .cells #[.bool a0_0, .int .i64 a0_1, .int .i64 a0_2, .int .i64 a0_3, .int .i64 a0_4, .int .i64 a0_5, .int .i64 a0_6] 25 (0, 0)) (by (with_reducible repeat (first | refine blk_drewN ?_ _ | refine blk_drew ?_ | refine blk_alloc ?_ _)); exact BK396.out)) : gb396 ≠ gb397)); have n6_ := Aside0.mk ((by rw [hg]; exact Nat.ne_of_gt (blk_lt (g := gb396) (o := .cells #[.bool a0_0, .int .i64 a0_1, .int .i64 a0_2, .int .i64 a0_3, .int .i64 a0_4, .int .i64 a0_5, .int .i64 a0_6] 25 (0, 0)) (by (with_reducible repeat (first | refine blk_drewN ?_ _ | refine blk_drew ?_ | refine blk_alloc ?_ _)); exact BK396.out)) : gb397 ≠ gb396)); clear BK396; clear HB; have BK396 := n0_; have HB := n1_; have BK397 := n2_; have GW397 := n3_; have GE397 := n4_; have NB396_397 := n5_; have NB397_396 := n6_; clear n0_ n1_ n2_ n3_ n4_ n5_ n6_; clear hb hbox hg) | ((with_reducible refine gate_callee (f := 11) rfl ?_); refine goesL_ (some 16) rfl rfl Try.func11 (by kernel_rfl) rfl #[] rfl (by (try simp only [List.map_toArray, List.map_cons, List.map_nil]); first | done | rfl | (simp only [List.length_drop, List.length_take]; rfl)) ?_; (with_reducible refine (slotmeshlaw09_head.calls k  t398 _ A3.out).mono ?_); rintro e w7 ⟨rfl, hb⟩; refine ⟨_, rfl, ?_⟩; have n0_ := Aside0.mk (blk_below (g := gb396) (o := .cells #[.bool a0_0, .int .i64 a0_1, .int .i64 a0_2, .int .i64 a0_3, .int .i64 a0_4, .int .i64 a0_5, .int .i64 a0_6] 25 (0, 0)) (by (with_reducible repeat (first | refine blk_drewN ?_ _ | refine blk_drew ?_ | refine blk_alloc ?_ _)); exact BK396.out) hb); have n1_ := Aside0.mk (blk_below (g := gb397) (o := .cells #[.int .i64 a1_0, .int .i64 a1_1, .int .i64 a1_2, .int .i64 a1_3, .int .i64 a1_4] 27 (0, 0)) (by (with_reducible repeat (first | refine blk_drewN ?_ _ | refine blk_drew ?_ | refine blk_alloc ?_ _)); exact BK397.out) hb); have n2_ := Aside0.mk (below_step (by repeat (first | (with_reducible first | exact HB.out | apply below_alloc | apply pw_below_drewN | apply below_drew1 | refine below_set ?_ GE396.out | refine below_set ?_ GE397.out) | exact HB.out)) hb); clear BK396; clear BK397; clear HB; have BK396 := n0_; have BK397 := n1_; have HB := n2_; clear n0_ n1_ n2_; (try clear hb); (try clear hb2); (try clear hk); (try clear hi)))
  (try simp only [Act.put, List.setIfInBounds_toArray, List.set_cons_zero, List.set_cons_succ])
  go_cut [28] (fun v28 wc => ∃ (kq : Nat) (x28_3 : Bool), v28 = .bool x28_3 ∧ Aside0 (slotmeshlaw09_TimesyncBetter.j0 kq t398 x28_3 a0_0 a0_1 a0_2 a0_3 a0_4 a0_5 a0_6 a1_0 a1_1 a1_2 a1_3 a1_4 = some r) ∧ Aside0 (kq ≤ k) ∧ Aside0 (wc.heap[gb396]? = some (.cells #[.bool a0_0, .int .i64 a0_1, .int .i64 a0_2, .int .i64 a0_3, .int .i64 a0_4, .int .i64 a0_5, .int .i64 a0_6] 25 (0, 0))) ∧ Aside0 (wc.heap[gb397]? = some (.cells #[.int .i64 a1_0, .int .i64 a1_1, .int .i64 a1_2, .int .i64 a1_3, .int .i64 a1_4] 27 (0, 0))) ∧ Aside0 (Below w.heap.size w wc))
  case first =>
    have H := HC4.out
    clear HC4
    replace H := Option.bind_eq_some_iff.mp H
    obtain ⟨t399, A80, H⟩ := H
    replace H : (if t399 = true then (if a0_0 = true then ((slotmeshref09_Root.f a0_0 a0_1 a0_2 a0_3 a0_4 a0_5 a0_6).bind fun t400 => (slotmeshlaw09_TimesyncBetter.j0 k t398 t400 a0_0 a0_1 a0_2 a0_3 a0_4 a0_5 a0_6 a1_0 a1_1 a1_2 a1_3 a1_4)) else (slotmeshlaw09_TimesyncBetter.j0 k t398 true a0_0 a0_1 a0_2 a0_3 a0_4 a0_5 a0_6 a1_0 a1_1 a1_2 a1_3 a1_4)) else (slotmeshlaw09_TimesyncBetter.j0 k t398 true a0_0 a0_1 a0_2 a0_3 a0_4 a0_5 a0_6 a1_0 a1_1 a1_2 a1_3 a1_4)) = some r := H
    have A8 := Aside0.mk A80
    clear A80
    by_cases c9 : t399 = true
    · subst c9
      have H1 : (if a0_0 = true then ((slotmeshref09_Root.f a0_0 a0_1 a0_2 a0_3 a0_4 a0_5 a0_6).bind fun t400 => (slotmeshlaw09_TimesyncBetter.j0 k t398 t400 a0_0 a0_1 a0_2 a0_3 a0_4 a0_5 a0_6 a1_0 a1_1 a1_2 a1_3 a1_4)) else (slotmeshlaw09_TimesyncBetter.j0 k t398 true a0_0 a0_1 a0_2 a0_3 a0_4 a0_5 a0_6 a1_0 a1_1 a1_2 a1_3 a1_4)) = some r := by rw [if_pos rfl] at H; exact H
      clear H
      have H := H1
      clear H1
      by_cases c10 : a0_0 = true
      · subst c10
        have H1 : ((slotmeshref09_Root.f true a0_1 a0_2 a0_3 a0_4 a0_5 a0_6).bind fun t400 => (slotmeshlaw09_TimesyncBetter.j0 k t398 t400 true a0_1 a0_2 a0_3 a0_4 a0_5 a0_6 a1_0 a1_1 a1_2 a1_3 a1_4)) = some r := by rw [if_pos rfl] at H; exact H
        clear H
        have H := H1
        clear H1
        replace H := Option.bind_eq_some_iff.mp H
        obtain ⟨t400, A110, H⟩ := H
        replace H : (slotmeshlaw09_TimesyncBetter.j0 k t398 t400 true a0_1 a0_2 a0_3 a0_4 a0_5 a0_6 a1_0 a1_1 a1_2 a1_3 a1_4) = some r := H
        have A11 := Aside0.mk A110
        clear A110
        have H' := Aside0.mk H
        clear H
        have hnb12 := NB396_397.out
        have hnc12 := NB397_396.out
        have hcz13_0 : w7.cell? ⟨gb396, 0, none⟩ = some (.bool true) := (blk_cell BK396.out 0).trans rfl
        have hcz13_1 : w7.cell? ⟨gb396, 1, none⟩ = some (.int .i64 a0_1) := (blk_cell BK396.out 1).trans rfl
        have hcz13_2 : w7.cell? ⟨gb396, 2, none⟩ = some (.int .i64 a0_2) := (blk_cell BK396.out 2).trans rfl
        have hcz13_3 : w7.cell? ⟨gb396, 3, none⟩ = some (.int .i64 a0_3) := (blk_cell BK396.out 3).trans rfl
        have hcz13_4 : w7.cell? ⟨gb396, 4, none⟩ = some (.int .i64 a0_4) := (blk_cell BK396.out 4).trans rfl
        have hcz13_5 : w7.cell? ⟨gb396, 5, none⟩ = some (.int .i64 a0_5) := (blk_cell BK396.out 5).trans rfl
        have hcz13_6 : w7.cell? ⟨gb396, 6, none⟩ = some (.int .i64 a0_6) := (blk_cell BK396.out 6).trans rfl
        have hfz13_0 := blk_frozen BK396.out 0
        have hfz13_1 := blk_frozen BK396.out 1
        have hfz13_2 := blk_frozen BK396.out 2
        have hfz13_3 := blk_frozen BK396.out 3
        have hfz13_4 := blk_frozen BK396.out 4
        have hfz13_5 := blk_frozen BK396.out 5
        have hfz13_6 := blk_frozen BK396.out 6
        go_wp2_with (first | ((with_reducible refine gate_callee (f := 20) rfl ?_); refine goesL_ (some 18) rfl rfl Try.func20 (by kernel_rfl) rfl #[.agg #[.bool true, .int .i64 a0_1, .int .i64 a0_2, .int .i64 a0_3, .int .i64 a0_4, .int .i64 a0_5, .int .i64 a0_6]] rfl (by (try simp only [List.map_toArray, List.map_cons, List.map_nil]); first | done | rfl | (simp only [List.length_drop, List.length_take]; rfl)) ?_; (with_reducible refine (slotmeshref09_Valid.calls k true a0_1 a0_2 a0_3 a0_4 a0_5 a0_6 true _ A8.out).mono ?_); rintro e w14 ⟨rfl, hb⟩; refine ⟨_, rfl, ?_⟩; have n0_ := Aside0.mk (blk_below (g := gb396) (o := .cells #[.bool true, .int .i64 a0_1, .int .i64 a0_2, .int .i64 a0_3, .int .i64 a0_4, .int .i64 a0_5, .int .i64 a0_6] 25 (0, 0)) (by (with_reducible repeat (first | refine blk_drewN ?_ _ | refine blk_drew ?_ | refine blk_alloc ?_ _)); exact BK396.out) hb); have n1_ := Aside0.mk (blk_below (g := gb397) (o := .cells #[.int .i64 a1_0, .int .i64 a1_1, .int .i64 a1_2, .int .i64 a1_3, .int .i64 a1_4] 27 (0, 0)) (by (with_reducible repeat (first | refine blk_drewN ?_ _ | refine blk_drew ?_ | refine blk_alloc ?_ _)); exact BK397.out) hb); have n2_ := Aside0.mk (below_step (by repeat (first | (with_reducible first | exact HB.out | apply below_alloc | apply pw_below_drewN | apply below_drew1 | refine below_set ?_ GE396.out | refine below_set ?_ GE397.out) | exact HB.out)) hb); clear BK396; clear BK397; clear HB; have BK396 := n0_; have BK397 := n1_; have HB := n2_; clear n0_ n1_ n2_; (try clear hb); (try clear hb2); (try clear hk); (try clear hi); have hcz15_0 : w14.cell? ⟨gb396, 0, none⟩ = some (.bool true) := (blk_cell BK396.out 0).trans rfl; have hcz15_1 : w14.cell? ⟨gb396, 1, none⟩ = some (.int .i64 a0_1) := (blk_cell BK396.out 1).trans rfl; have hcz15_2 : w14.cell? ⟨gb396, 2, none⟩ = some (.int .i64 a0_2) := (blk_cell BK396.out 2).trans rfl; have hcz15_3 : w14.cell? ⟨gb396, 3, none⟩ = some (.int .i64 a0_3) := (blk_cell BK396.out 3).trans rfl; have hcz15_4 : w14.cell? ⟨gb396, 4, none⟩ = some (.int .i64 a0_4) := (blk_cell BK396.out 4).trans rfl; have hcz15_5 : w14.cell? ⟨gb396, 5, none⟩ = some (.int .i64 a0_5) := (blk_cell BK396.out 5).trans rfl; have hcz15_6 : w14.cell? ⟨gb396, 6, none⟩ = some (.int .i64 a0_6) := (blk_cell BK396.out 6).trans rfl; have hfz15_0 := blk_frozen BK396.out 0; have hfz15_1 := blk_frozen BK396.out 1; have hfz15_2 := blk_frozen BK396.out 2; have hfz15_3 := blk_frozen BK396.out 3; have hfz15_4 := blk_frozen BK396.out 4; have hfz15_5 := blk_frozen BK396.out 5; have hfz15_6 := blk_frozen BK396.out 6) | (go_at_call 21; (with_reducible refine (slotmeshref09_Root.calls true a0_1 a0_2 a0_3 a0_4 a0_5 a0_6 t400 _ A11.out).mono ?_); rintro e w16 ⟨rfl, hb⟩; have n0_ := Aside0.mk (blk_below (g := gb396) (o := .cells #[.bool true, .int .i64 a0_1, .int .i64 a0_2, .int .i64 a0_3, .int .i64 a0_4, .int .i64 a0_5, .int .i64 a0_6] 25 (0, 0)) (by (with_reducible repeat (first | refine blk_drewN ?_ _ | refine blk_drew ?_ | refine blk_alloc ?_ _)); exact BK396.out) hb); have n1_ := Aside0.mk (blk_below (g := gb397) (o := .cells #[.int .i64 a1_0, .int .i64 a1_1, .int .i64 a1_2, .int .i64 a1_3, .int .i64 a1_4] 27 (0, 0)) (by (with_reducible repeat (first | refine blk_drewN ?_ _ | refine blk_drew ?_ | refine blk_alloc ?_ _)); exact BK397.out) hb); have n2_ := Aside0.mk (below_step (by repeat (first | (with_reducible first | exact HB.out | apply below_alloc | apply pw_below_drewN | apply below_drew1 | refine below_set ?_ GE396.out | refine below_set ?_ GE397.out) | exact HB.out)) hb); clear BK396; clear BK397; clear HB; have BK396 := n0_; have BK397 := n1_; have HB := n2_; clear n0_ n1_ n2_; (try clear hb); (try clear hb2); (try clear hk); (try clear hi)))
        go_meet
        case rel => exact ⟨_, (t400), (by first | rfl | (simp; done) | (simp [*]; done)), H', ⟨by first | omega | exact Nat.le_refl _⟩, ⟨by (with_reducible repeat (first | refine blk_drewN ?_ _ | refine blk_drew ?_ | refine blk_alloc ?_ _)); exact BK396.out⟩, ⟨by (with_reducible repeat (first | refine blk_drewN ?_ _ | refine blk_drew ?_ | refine blk_alloc ?_ _)); exact BK397.out⟩, ⟨by repeat (first | (with_reducible first | exact HB.out | apply below_alloc | apply pw_below_drewN | apply below_drew1 | refine below_set ?_ GE396.out | refine below_set ?_ GE397.out) | exact HB.out)⟩⟩
      · replace c10 := Bool.eq_false_iff.mpr c10
        subst c10
        have H1 : (slotmeshlaw09_TimesyncBetter.j0 k t398 true false a0_1 a0_2 a0_3 a0_4 a0_5 a0_6 a1_0 a1_1 a1_2 a1_3 a1_4) = some r := by rw [if_neg (show ¬ (false = true) by decide)] at H; exact H
        clear H
        have H := H1
        clear H1
        have H' := Aside0.mk H
        clear H
        have hnb17 := NB396_397.out
        have hnc17 := NB397_396.out
        have hcz18_0 : w7.cell? ⟨gb396, 0, none⟩ = some (.bool false) := (blk_cell BK396.out 0).trans rfl
        have hcz18_1 : w7.cell? ⟨gb396, 1, none⟩ = some (.int .i64 a0_1) := (blk_cell BK396.out 1).trans rfl
        have hcz18_2 : w7.cell? ⟨gb396, 2, none⟩ = some (.int .i64 a0_2) := (blk_cell BK396.out 2).trans rfl
        have hcz18_3 : w7.cell? ⟨gb396, 3, none⟩ = some (.int .i64 a0_3) := (blk_cell BK396.out 3).trans rfl
        have hcz18_4 : w7.cell? ⟨gb396, 4, none⟩ = some (.int .i64 a0_4) := (blk_cell BK396.out 4).trans rfl
        have hcz18_5 : w7.cell? ⟨gb396, 5, none⟩ = some (.int .i64 a0_5) := (blk_cell BK396.out 5).trans rfl
        have hcz18_6 : w7.cell? ⟨gb396, 6, none⟩ = some (.int .i64 a0_6) := (blk_cell BK396.out 6).trans rfl
        have hfz18_0 := blk_frozen BK396.out 0
        have hfz18_1 := blk_frozen BK396.out 1
        have hfz18_2 := blk_frozen BK396.out 2
        have hfz18_3 := blk_frozen BK396.out 3
        have hfz18_4 := blk_frozen BK396.out 4
        have hfz18_5 := blk_frozen BK396.out 5
        have hfz18_6 := blk_frozen BK396.out 6
        go_wp2_with (first | ((with_reducible refine gate_callee (f := 20) rfl ?_); refine goesL_ (some 18) rfl rfl Try.func20 (by kernel_rfl) rfl #[.agg #[.bool false, .int .i64 a0_1, .int .i64 a0_2, .int .i64 a0_3, .int .i64 a0_4, .int .i64 a0_5, .int .i64 a0_6]] rfl (by (try simp only [List.map_toArray, List.map_cons, List.map_nil]); first | done | rfl | (simp only [List.length_drop, List.length_take]; rfl)) ?_; (with_reducible refine (slotmeshref09_Valid.calls k false a0_1 a0_2 a0_3 a0_4 a0_5 a0_6 true _ A8.out).mono ?_); rintro e w19 ⟨rfl, hb⟩; refine ⟨_, rfl, ?_⟩; have n0_ := Aside0.mk (blk_below (g := gb396) (o := .cells #[.bool false, .int .i64 a0_1, .int .i64 a0_2, .int .i64 a0_3, .int .i64 a0_4, .int .i64 a0_5, .int .i64 a0_6] 25 (0, 0)) (by (with_reducible repeat (first | refine blk_drewN ?_ _ | refine blk_drew ?_ | refine blk_alloc ?_ _)); exact BK396.out) hb); have n1_ := Aside0.mk (blk_below (g := gb397) (o := .cells #[.int .i64 a1_0, .int .i64 a1_1, .int .i64 a1_2, .int .i64 a1_3, .int .i64 a1_4] 27 (0, 0)) (by (with_reducible repeat (first | refine blk_drewN ?_ _ | refine blk_drew ?_ | refine blk_alloc ?_ _)); exact BK397.out) hb); have n2_ := Aside0.mk (below_step (by repeat (first | (with_reducible first | exact HB.out | apply below_alloc | apply pw_below_drewN | apply below_drew1 | refine below_set ?_ GE396.out | refine below_set ?_ GE397.out) | exact HB.out)) hb); clear BK396; clear BK397; clear HB; have BK396 := n0_; have BK397 := n1_; have HB := n2_; clear n0_ n1_ n2_; (try clear hb); (try clear hb2); (try clear hk); (try clear hi); have hcz20_0 : w19.cell? ⟨gb396, 0, none⟩ = some (.bool false) := (blk_cell BK396.out 0).trans rfl; have hcz20_1 : w19.cell? ⟨gb396, 1, none⟩ = some (.int .i64 a0_1) := (blk_cell BK396.out 1).trans rfl; have hcz20_2 : w19.cell? ⟨gb396, 2, none⟩ = some (.int .i64 a0_2) := (blk_cell BK396.out 2).trans rfl; have hcz20_3 : w19.cell? ⟨gb396, 3, none⟩ = some (.int .i64 a0_3) := (blk_cell BK396.out 3).trans rfl; have hcz20_4 : w19.cell? ⟨gb396, 4, none⟩ = some (.int .i64 a0_4) := (blk_cell BK396.out 4).trans rfl; have hcz20_5 : w19.cell? ⟨gb396, 5, none⟩ = some (.int .i64 a0_5) := (blk_cell BK396.out 5).trans rfl; have hcz20_6 : w19.cell? ⟨gb396, 6, none⟩ = some (.int .i64 a0_6) := (blk_cell BK396.out 6).trans rfl; have hfz20_0 := blk_frozen BK396.out 0; have hfz20_1 := blk_frozen BK396.out 1; have hfz20_2 := blk_frozen BK396.out 2; have hfz20_3 := blk_frozen BK396.out 3; have hfz20_4 := blk_frozen BK396.out 4; have hfz20_5 := blk_frozen BK396.out 5; have hfz20_6 := blk_frozen BK396.out 6))
        go_meet
        case rel => exact ⟨_, (true), (by first | rfl | (simp; done) | (simp [*]; done)), H', ⟨by first | omega | exact Nat.le_refl _⟩, ⟨by (with_reducible repeat (first | refine blk_drewN ?_ _ | refine blk_drew ?_ | refine blk_alloc ?_ _)); exact BK396.out⟩, ⟨by (with_reducible repeat (first | refine blk_drewN ?_ _ | refine blk_drew ?_ | refine blk_alloc ?_ _)); exact BK397.out⟩, ⟨by repeat (first | (with_reducible first | exact HB.out | apply below_alloc | apply pw_below_drewN | apply below_drew1 | refine below_set ?_ GE396.out | refine below_set ?_ GE397.out) | exact HB.out)⟩⟩
    · replace c9 := Bool.eq_false_iff.mpr c9
      subst c9
      have H1 : (slotmeshlaw09_TimesyncBetter.j0 k t398 true a0_0 a0_1 a0_2 a0_3 a0_4 a0_5 a0_6 a1_0 a1_1 a1_2 a1_3 a1_4) = some r := by rw [if_neg (show ¬ (false = true) by decide)] at H; exact H
      clear H
      have H := H1
      clear H1
      have H' := Aside0.mk H
      clear H
      have hnb21 := NB396_397.out
      have hnc21 := NB397_396.out
      have hcz22_0 : w7.cell? ⟨gb396, 0, none⟩ = some (.bool a0_0) := (blk_cell BK396.out 0).trans rfl
      have hcz22_1 : w7.cell? ⟨gb396, 1, none⟩ = some (.int .i64 a0_1) := (blk_cell BK396.out 1).trans rfl
      have hcz22_2 : w7.cell? ⟨gb396, 2, none⟩ = some (.int .i64 a0_2) := (blk_cell BK396.out 2).trans rfl
      have hcz22_3 : w7.cell? ⟨gb396, 3, none⟩ = some (.int .i64 a0_3) := (blk_cell BK396.out 3).trans rfl
      have hcz22_4 : w7.cell? ⟨gb396, 4, none⟩ = some (.int .i64 a0_4) := (blk_cell BK396.out 4).trans rfl
      have hcz22_5 : w7.cell? ⟨gb396, 5, none⟩ = some (.int .i64 a0_5) := (blk_cell BK396.out 5).trans rfl
      have hcz22_6 : w7.cell? ⟨gb396, 6, none⟩ = some (.int .i64 a0_6) := (blk_cell BK396.out 6).trans rfl
      have hfz22_0 := blk_frozen BK396.out 0
      have hfz22_1 := blk_frozen BK396.out 1
      have hfz22_2 := blk_frozen BK396.out 2
      have hfz22_3 := blk_frozen BK396.out 3
      have hfz22_4 := blk_frozen BK396.out 4
      have hfz22_5 := blk_frozen BK396.out 5
      have hfz22_6 := blk_frozen BK396.out 6
      go_wp2_with (first | ((with_reducible refine gate_callee (f := 20) rfl ?_); refine goesL_ (some 18) rfl rfl Try.func20 (by kernel_rfl) rfl #[.agg #[.bool a0_0, .int .i64 a0_1, .int .i64 a0_2, .int .i64 a0_3, .int .i64 a0_4, .int .i64 a0_5, .int .i64 a0_6]] rfl (by (try simp only [List.map_toArray, List.map_cons, List.map_nil]); first | done | rfl | (simp only [List.length_drop, List.length_take]; rfl)) ?_; (with_reducible refine (slotmeshref09_Valid.calls k a0_0 a0_1 a0_2 a0_3 a0_4 a0_5 a0_6 false _ A8.out).mono ?_); rintro e w23 ⟨rfl, hb⟩; refine ⟨_, rfl, ?_⟩; have n0_ := Aside0.mk (blk_below (g := gb396) (o := .cells #[.bool a0_0, .int .i64 a0_1, .int .i64 a0_2, .int .i64 a0_3, .int .i64 a0_4, .int .i64 a0_5, .int .i64 a0_6] 25 (0, 0)) (by (with_reducible repeat (first | refine blk_drewN ?_ _ | refine blk_drew ?_ | refine blk_alloc ?_ _)); exact BK396.out) hb); have n1_ := Aside0.mk (blk_below (g := gb397) (o := .cells #[.int .i64 a1_0, .int .i64 a1_1, .int .i64 a1_2, .int .i64 a1_3, .int .i64 a1_4] 27 (0, 0)) (by (with_reducible repeat (first | refine blk_drewN ?_ _ | refine blk_drew ?_ | refine blk_alloc ?_ _)); exact BK397.out) hb); have n2_ := Aside0.mk (below_step (by repeat (first | (with_reducible first | exact HB.out | apply below_alloc | apply pw_below_drewN | apply below_drew1 | refine below_set ?_ GE396.out | refine below_set ?_ GE397.out) | exact HB.out)) hb); clear BK396; clear BK397; clear HB; have BK396 := n0_; have BK397 := n1_; have HB := n2_; clear n0_ n1_ n2_; (try clear hb); (try clear hb2); (try clear hk); (try clear hi)))
      go_meet
      case rel => exact ⟨_, (true), (by first | rfl | (simp; done) | (simp [*]; done)), H', ⟨by first | omega | exact Nat.le_refl _⟩, ⟨by (with_reducible repeat (first | refine blk_drewN ?_ _ | refine blk_drew ?_ | refine blk_alloc ?_ _)); exact BK396.out⟩, ⟨by (with_reducible repeat (first | refine blk_drewN ?_ _ | refine blk_drew ?_ | refine blk_alloc ?_ _)); exact BK397.out⟩, ⟨by repeat (first | (with_reducible first | exact HB.out | apply below_alloc | apply pw_below_drewN | apply below_drew1 | refine below_set ?_ GE396.out | refine below_set ?_ GE397.out) | exact HB.out)⟩⟩
  case rest =>
    clear HC4
    try clear c1
    try clear c2
    try clear p2
    try clear c6
    try clear c9
    try clear c10
    try clear c11
    try clear c12
    try clear c17
    try clear c20
    try clear c21
    try clear hcz13_0
    try clear hcz13_1
    try clear hcz13_2
    try clear hcz13_3
    try clear hcz13_4
    try clear hcz13_5
    try clear hcz13_6
    try clear hcz15_0
    try clear hcz15_1
    try clear hcz15_2
    try clear hcz15_3
    try clear hcz15_4
    try clear hcz15_5
    try clear hcz15_6
    try clear hcz18_0
    try clear hcz18_1
    try clear hcz18_2
    try clear hcz18_3
    try clear hcz18_4
    try clear hcz18_5
    try clear hcz18_6
    try clear hcz20_0
    try clear hcz20_1
    try clear hcz20_2
    try clear hcz20_3
    try clear hcz20_4
    try clear hcz20_5
    try clear hcz20_6
    try clear hcz22_0
    try clear hcz22_1
    try clear hcz22_2
    try clear hcz22_3
    try clear hcz22_4
    try clear hcz22_5
    try clear hcz22_6
    try clear hfz13_0
    try clear hfz13_1
    try clear hfz13_2
    try clear hfz13_3
    try clear hfz13_4
    try clear hfz13_5
    try clear hfz13_6
    try clear hfz15_0
    try clear hfz15_1
    try clear hfz15_2
    try clear hfz15_3
    try clear hfz15_4
    try clear hfz15_5
    try clear hfz15_6
    try clear hfz18_0
    try clear hfz18_1
    try clear hfz18_2
    try clear hfz18_3
    try clear hfz18_4
    try clear hfz18_5
    try clear hfz18_6
    try clear hfz20_0
    try clear hfz20_1
    try clear hfz20_2
    try clear hfz20_3
    try clear hfz20_4
    try clear hfz20_5
    try clear hfz20_6
    try clear hfz22_0
    try clear hfz22_1
    try clear hfz22_2
    try clear hfz22_3
    try clear hfz22_4
    try clear hfz22_5
    try clear hfz22_6
    obtain ⟨kq, x28_3, rfl, HA, HJ3, BK396, BK397, HB⟩ := hcut
    cases kq with
    | zero => exact absurd HA.out (by simp [slotmeshlaw09_TimesyncBetter.j0])
    | succ kj3 =>
      have H := HA.out
      clear HA
      simp only [slotmeshlaw09_TimesyncBetter.j0] at H
      by_cases c24 : x28_3 = true
      · subst c24
        have H1 : (some t398) = some r := by rw [if_pos rfl] at H; exact H
        clear H
        have H := H1
        clear H1
        obtain rfl := Option.some.inj H
        go_wp2
        go_ret
        exact ⟨by first | rfl | (simp [errW_none, errW_some] <;> rfl) | (simp [*, errW_none, errW_some] <;> rfl), by repeat (first | (with_reducible first | exact HB.out | apply below_alloc | apply pw_below_drewN | apply below_drew1 | refine below_set ?_ GE396.out | refine below_set ?_ GE397.out) | exact HB.out)⟩
      · replace c24 := Bool.eq_false_iff.mpr c24
        subst c24
        have H1 : ((timesync_Hear.f kj3 a0_0 a0_1 a0_2 a0_3 a0_4 a0_5 a0_6 a1_0 a1_1 a1_2 a1_3 a1_4).bind fun bt401 => (if bt401.2.2.2.2.2.2.2 = 0 then (slotmeshlaw09_TimesyncBetter.j1 kj3 t398 (bt401.1 == a0_0 && ((bt401.2.1 == a0_1 && (bt401.2.2.1 == a0_2 && (bt401.2.2.2.1 == a0_3))) && (bt401.2.2.2.2.1 == a0_4 && (bt401.2.2.2.2.2.1 == a0_5 && (bt401.2.2.2.2.2.2.1 == a0_6))))) a0_0 a0_1 a0_2 a0_3 a0_4 a0_5 a0_6 a1_0 a1_1 a1_2 a1_3 a1_4 bt401.1 bt401.2.1 bt401.2.2.1 bt401.2.2.2.1 bt401.2.2.2.2.1 bt401.2.2.2.2.2.1 bt401.2.2.2.2.2.2.1) else (slotmeshlaw09_TimesyncBetter.j1 kj3 t398 true a0_0 a0_1 a0_2 a0_3 a0_4 a0_5 a0_6 a1_0 a1_1 a1_2 a1_3 a1_4 bt401.1 bt401.2.1 bt401.2.2.1 bt401.2.2.2.1 bt401.2.2.2.2.1 bt401.2.2.2.2.2.1 bt401.2.2.2.2.2.2.1))) = some r := by rw [if_neg (show ¬ (false = true) by decide)] at H; exact H
        clear H
        have H := H1
        clear H1
        replace H := Option.bind_eq_some_iff.mp H
        obtain ⟨⟨t401, t402, t403, t404, t405, t406, t407, t408⟩, A250, H⟩ := H
        replace H : (if t408 = 0 then (slotmeshlaw09_TimesyncBetter.j1 kj3 t398 (t401 == a0_0 && ((t402 == a0_1 && (t403 == a0_2 && (t404 == a0_3))) && (t405 == a0_4 && (t406 == a0_5 && (t407 == a0_6))))) a0_0 a0_1 a0_2 a0_3 a0_4 a0_5 a0_6 a1_0 a1_1 a1_2 a1_3 a1_4 t401 t402 t403 t404 t405 t406 t407) else (slotmeshlaw09_TimesyncBetter.j1 kj3 t398 true a0_0 a0_1 a0_2 a0_3 a0_4 a0_5 a0_6 a1_0 a1_1 a1_2 a1_3 a1_4 t401 t402 t403 t404 t405 t406 t407)) = some r := H
        have A25 := Aside0.mk A250
        clear A250
        have HC26 := Aside0.mk H
        clear H
        have hnb27 := NB396_397.out
        have hnc27 := NB397_396.out
        have hcz28_0 : wc.cell? ⟨gb396, 0, none⟩ = some (.bool a0_0) := (blk_cell BK396.out 0).trans rfl
        have hcz28_1 : wc.cell? ⟨gb396, 1, none⟩ = some (.int .i64 a0_1) := (blk_cell BK396.out 1).trans rfl
        have hcz28_2 : wc.cell? ⟨gb396, 2, none⟩ = some (.int .i64 a0_2) := (blk_cell BK396.out 2).trans rfl
        have hcz28_3 : wc.cell? ⟨gb396, 3, none⟩ = some (.int .i64 a0_3) := (blk_cell BK396.out 3).trans rfl
        have hcz28_4 : wc.cell? ⟨gb396, 4, none⟩ = some (.int .i64 a0_4) := (blk_cell BK396.out 4).trans rfl
        have hcz28_5 : wc.cell? ⟨gb396, 5, none⟩ = some (.int .i64 a0_5) := (blk_cell BK396.out 5).trans rfl
        have hcz28_6 : wc.cell? ⟨gb396, 6, none⟩ = some (.int .i64 a0_6) := (blk_cell BK396.out 6).trans rfl
        have hfz28_0 := blk_frozen BK396.out 0
        have hfz28_1 := blk_frozen BK396.out 1
        have hfz28_2 := blk_frozen BK396.out 2
        have hfz28_3 := blk_frozen BK396.out 3
        have hfz28_4 := blk_frozen BK396.out 4
        have hfz28_5 := blk_frozen BK396.out 5
        have hfz28_6 := blk_frozen BK396.out 6
        have hcz29_0 : wc.cell? ⟨gb397, 0, none⟩ = some (.int .i64 a1_0) := (blk_cell BK397.out 0).trans rfl
        have hcz29_1 : wc.cell? ⟨gb397, 1, none⟩ = some (.int .i64 a1_1) := (blk_cell BK397.out 1).trans rfl
        have hcz29_2 : wc.cell? ⟨gb397, 2, none⟩ = some (.int .i64 a1_2) := (blk_cell BK397.out 2).trans rfl
        have hcz29_3 : wc.cell? ⟨gb397, 3, none⟩ = some (.int .i64 a1_3) := (blk_cell BK397.out 3).trans rfl
        have hcz29_4 : wc.cell? ⟨gb397, 4, none⟩ = some (.int .i64 a1_4) := (blk_cell BK397.out 4).trans rfl
        have hfz29_0 := blk_frozen BK397.out 0
        have hfz29_1 := blk_frozen BK397.out 1
        have hfz29_2 := blk_frozen BK397.out 2
        have hfz29_3 := blk_frozen BK397.out 3
        have hfz29_4 := blk_frozen BK397.out 4
        go_upto_region 5 with (first | ((with_reducible refine gate_callee (f := 12) rfl ?_); refine goesL_ (some 33) rfl rfl Try.func12 (by kernel_rfl) rfl #[.agg #[.bool a0_0, .int .i64 a0_1, .int .i64 a0_2, .int .i64 a0_3, .int .i64 a0_4, .int .i64 a0_5, .int .i64 a0_6], .agg #[.int .i64 a1_0, .int .i64 a1_1, .int .i64 a1_2, .int .i64 a1_3, .int .i64 a1_4]] rfl (by (try simp only [List.map_toArray, List.map_cons, List.map_nil]); first | done | rfl | (simp only [List.length_drop, List.length_take]; rfl)) ?_; (with_reducible refine (timesync_Hear.calls kj3 a0_0 a0_1 a0_2 a0_3 a0_4 a0_5 a0_6 a1_0 a1_1 a1_2 a1_3 a1_4 t401 t402 t403 t404 t405 t406 t407 t408 _ A25.out).mono ?_); rintro e w30 ⟨rfl, hb⟩; refine ⟨_, rfl, ?_⟩; have n0_ := Aside0.mk (blk_below (g := gb396) (o := .cells #[.bool a0_0, .int .i64 a0_1, .int .i64 a0_2, .int .i64 a0_3, .int .i64 a0_4, .int .i64 a0_5, .int .i64 a0_6] 25 (0, 0)) (by (with_reducible repeat (first | refine blk_drewN ?_ _ | refine blk_drew ?_ | refine blk_alloc ?_ _)); exact BK396.out) hb); have n1_ := Aside0.mk (blk_below (g := gb397) (o := .cells #[.int .i64 a1_0, .int .i64 a1_1, .int .i64 a1_2, .int .i64 a1_3, .int .i64 a1_4] 27 (0, 0)) (by (with_reducible repeat (first | refine blk_drewN ?_ _ | refine blk_drew ?_ | refine blk_alloc ?_ _)); exact BK397.out) hb); have n2_ := Aside0.mk (below_step (by repeat (first | (with_reducible first | exact HB.out | apply below_alloc | apply pw_below_drewN | apply below_drew1 | refine below_set ?_ GE396.out | refine below_set ?_ GE397.out) | exact HB.out)) hb); clear BK396; clear BK397; clear HB; have BK396 := n0_; have BK397 := n1_; have HB := n2_; clear n0_ n1_ n2_; (try clear hb); (try clear hb2); (try clear hk); (try clear hi)) | ((with_reducible refine gate_dst (N := 6) rfl ?_); (try (refine gate_guard (by rfl) ?_; dsimp only)); refine box_event ?hg (N := 6) ?hd (cs := #[.bool false, .int .i64 0, .int .i64 0, .int .i64 0, .int .i64 0, .int .i64 0, .int .i64 0]) (t := 25) ?hr ?_; (case hd => rfl); (case hg => rfl); (case hr => first | (go_simp; done) | (go_simp; rfl)); intro gb409 hg w31 hbox hb; have n0_ := Aside0.mk (blk_below (g := gb396) (o := .cells #[.bool a0_0, .int .i64 a0_1, .int .i64 a0_2, .int .i64 a0_3, .int .i64 a0_4, .int .i64 a0_5, .int .i64 a0_6] 25 (0, 0)) (by (with_reducible repeat (first | refine blk_drewN ?_ _ | refine blk_drew ?_ | refine blk_alloc ?_ _)); exact BK396.out) hb); have n1_ := Aside0.mk (blk_below (g := gb397) (o := .cells #[.int .i64 a1_0, .int .i64 a1_1, .int .i64 a1_2, .int .i64 a1_3, .int .i64 a1_4] 27 (0, 0)) (by (with_reducible repeat (first | refine blk_drewN ?_ _ | refine blk_drew ?_ | refine blk_alloc ?_ _)); exact BK397.out) hb); have n2_ := Aside0.mk (below_step (by repeat (first | (with_reducible first | exact HB.out | apply below_alloc | apply pw_below_drewN | apply below_drew1 | refine below_set ?_ GE396.out | refine below_set ?_ GE397.out) | exact HB.out)) hb); have n3_ := Aside0.mk (hbox); have n4_ := Aside0.mk ((by rw [hg]; exact (below_size (by repeat (first | (with_reducible first | exact HB.out | apply below_alloc | apply pw_below_drewN | apply below_drew1 | refine below_set ?_ GE396.out | refine below_set ?_ GE397.out) | exact HB.out))) : w.heap.size ≤ gb409)); have n5_ := Aside0.mk ((by rw [hg]; exact (below_size (by repeat (first | (with_reducible first | exact HB.out | apply below_alloc | apply pw_below_drewN | apply below_drew1 | refine below_set ?_ GE396.out | refine below_set ?_ GE397.out) | exact HB.out))) : w.heap.size ≤ gb409)); have n6_ := Aside0.mk ((by rw [hg]; exact Nat.ne_of_lt (blk_lt (g := gb396) (o := .cells #[.bool a0_0, .int .i64 a0_1, .int .i64 a0_2, .int .i64 a0_3, .int .i64 a0_4, .int .i64 a0_5, .int .i64 a0_6] 25 (0, 0)) (by (with_reducible repeat (first | refine blk_drewN ?_ _ | refine blk_drew ?_ | refine blk_alloc ?_ _)); exact BK396.out)) : gb396 ≠ gb409)); have n7_ := Aside0.mk ((by rw [hg]; exact Nat.ne_of_gt (blk_lt (g := gb396) (o := .cells #[.bool a0_0, .int .i64 a0_1, .int .i64 a0_2, .int .i64 a0_3, .int .i64 a0_4, .int .i64 a0_5, .int .i64 a0_6] 25 (0, 0)) (by (with_reducible repeat (first | refine blk_drewN ?_ _ | refine blk_drew ?_ | refine blk_alloc ?_ _)); exact BK396.out)) : gb409 ≠ gb396)); have n8_ := Aside0.mk ((by rw [hg]; exact Nat.ne_of_lt (blk_lt (g := gb397) (o := .cells #[.int .i64 a1_0, .int .i64 a1_1, .int .i64 a1_2, .int .i64 a1_3, .int .i64 a1_4] 27 (0, 0)) (by (with_reducible repeat (first | refine blk_drewN ?_ _ | refine blk_drew ?_ | refine blk_alloc ?_ _)); exact BK397.out)) : gb397 ≠ gb409)); have n9_ := Aside0.mk ((by rw [hg]; exact Nat.ne_of_gt (blk_lt (g := gb397) (o := .cells #[.int .i64 a1_0, .int .i64 a1_1, .int .i64 a1_2, .int .i64 a1_3, .int .i64 a1_4] 27 (0, 0)) (by (with_reducible repeat (first | refine blk_drewN ?_ _ | refine blk_drew ?_ | refine blk_alloc ?_ _)); exact BK397.out)) : gb409 ≠ gb397)); clear BK396; clear BK397; clear HB; have BK396 := n0_; have BK397 := n1_; have HB := n2_; have BK409 := n3_; have GW409 := n4_; have GE409 := n5_; have NB396_409 := n6_; have NB409_396 := n7_; have NB397_409 := n8_; have NB409_397 := n9_; clear n0_ n1_ n2_ n3_ n4_ n5_ n6_ n7_ n8_ n9_; clear hb hbox hg; have hnb32 := NB409_396.out; have hnc32 := NB396_409.out; have hnb33 := NB409_397.out; have hnc33 := NB397_409.out; have hcz34_0 : w31.cell? ⟨gb409, 0, none⟩ = some (.bool false) := (blk_cell BK409.out 0).trans rfl; have hcz34_1 : w31.cell? ⟨gb409, 1, none⟩ = some (.int .i64 0) := (blk_cell BK409.out 1).trans rfl; have hcz34_2 : w31.cell? ⟨gb409, 2, none⟩ = some (.int .i64 0) := (blk_cell BK409.out 2).trans rfl; have hcz34_3 : w31.cell? ⟨gb409, 3, none⟩ = some (.int .i64 0) := (blk_cell BK409.out 3).trans rfl; have hcz34_4 : w31.cell? ⟨gb409, 4, none⟩ = some (.int .i64 0) := (blk_cell BK409.out 4).trans rfl; have hcz34_5 : w31.cell? ⟨gb409, 5, none⟩ = some (.int .i64 0) := (blk_cell BK409.out 5).trans rfl; have hcz34_6 : w31.cell? ⟨gb409, 6, none⟩ = some (.int .i64 0) := (blk_cell BK409.out 6).trans rfl; have hfz34_0 := blk_frozen BK409.out 0; have hfz34_1 := blk_frozen BK409.out 1; have hfz34_2 := blk_frozen BK409.out 2; have hfz34_3 := blk_frozen BK409.out 3; have hfz34_4 := blk_frozen BK409.out 4; have hfz34_5 := blk_frozen BK409.out 5; have hfz34_6 := blk_frozen BK409.out 6))
        (try simp only [Act.put, List.setIfInBounds_toArray, List.set_cons_zero, List.set_cons_succ])
        go_cut [42] (fun v42 wc => ∃ (kq : Nat) (x42_25 : Bool), v42 = .bool x42_25 ∧ Aside0 (slotmeshlaw09_TimesyncBetter.j1 kq t398 x42_25 a0_0 a0_1 a0_2 a0_3 a0_4 a0_5 a0_6 a1_0 a1_1 a1_2 a1_3 a1_4 t401 t402 t403 t404 t405 t406 t407 = some r) ∧ Aside0 (kq ≤ kj3) ∧ Aside0 (wc.heap[gb396]? = some (.cells #[.bool a0_0, .int .i64 a0_1, .int .i64 a0_2, .int .i64 a0_3, .int .i64 a0_4, .int .i64 a0_5, .int .i64 a0_6] 25 (0, 0))) ∧ Aside0 (wc.heap[gb397]? = some (.cells #[.int .i64 a1_0, .int .i64 a1_1, .int .i64 a1_2, .int .i64 a1_3, .int .i64 a1_4] 27 (0, 0))) ∧ Aside0 (wc.heap[gb409]? = some (.cells #[.bool t401, .int .i64 t402, .int .i64 t403, .int .i64 t404, .int .i64 t405, .int .i64 t406, .int .i64 t407] 25 (0, 0))) ∧ Aside0 (Below w.heap.size w wc))
        case first =>
          have H := HC26.out
          clear HC26
          by_cases c35 : t408 = 0
          · rw [if_pos c35] at H
            have c35b0 : (t408 == 0) = true := beq_iff_eq.mpr c35
            have c35b1 : (t408 != 0) = false := bne_eq_false_iff_eq.mpr c35
            clear c35
            (first | rw [c35b0] | (simp only [i64_w, i32_w]; rw [c35b0]) | skip)
            have H' := Aside0.mk H
            clear H
            have hnb36 := NB409_396.out
            have hnc36 := NB396_409.out
            have hnb37 := NB409_397.out
            have hnc37 := NB397_409.out
            have hcz38_0 : w31.cell? ⟨gb409, 0, none⟩ = some (.bool false) := (blk_cell BK409.out 0).trans rfl
            have hcz38_1 : w31.cell? ⟨gb409, 1, none⟩ = some (.int .i64 0) := (blk_cell BK409.out 1).trans rfl
            have hcz38_2 : w31.cell? ⟨gb409, 2, none⟩ = some (.int .i64 0) := (blk_cell BK409.out 2).trans rfl
            have hcz38_3 : w31.cell? ⟨gb409, 3, none⟩ = some (.int .i64 0) := (blk_cell BK409.out 3).trans rfl
            have hcz38_4 : w31.cell? ⟨gb409, 4, none⟩ = some (.int .i64 0) := (blk_cell BK409.out 4).trans rfl
            have hcz38_5 : w31.cell? ⟨gb409, 5, none⟩ = some (.int .i64 0) := (blk_cell BK409.out 5).trans rfl
            have hcz38_6 : w31.cell? ⟨gb409, 6, none⟩ = some (.int .i64 0) := (blk_cell BK409.out 6).trans rfl
            have hfz38_0 := blk_frozen BK409.out 0
            have hfz38_1 := blk_frozen BK409.out 1
            have hfz38_2 := blk_frozen BK409.out 2
            have hfz38_3 := blk_frozen BK409.out 3
            have hfz38_4 := blk_frozen BK409.out 4
            have hfz38_5 := blk_frozen BK409.out 5
            have hfz38_6 := blk_frozen BK409.out 6
            have hnb39 := NB396_397.out
            have hnc39 := NB397_396.out
            have hcz40_0 : w31.cell? ⟨gb396, 0, none⟩ = some (.bool a0_0) := (blk_cell BK396.out 0).trans rfl
            have hcz40_1 : w31.cell? ⟨gb396, 1, none⟩ = some (.int .i64 a0_1) := (blk_cell BK396.out 1).trans rfl
            have hcz40_2 : w31.cell? ⟨gb396, 2, none⟩ = some (.int .i64 a0_2) := (blk_cell BK396.out 2).trans rfl
            have hcz40_3 : w31.cell? ⟨gb396, 3, none⟩ = some (.int .i64 a0_3) := (blk_cell BK396.out 3).trans rfl
            have hcz40_4 : w31.cell? ⟨gb396, 4, none⟩ = some (.int .i64 a0_4) := (blk_cell BK396.out 4).trans rfl
            have hcz40_5 : w31.cell? ⟨gb396, 5, none⟩ = some (.int .i64 a0_5) := (blk_cell BK396.out 5).trans rfl
            have hcz40_6 : w31.cell? ⟨gb396, 6, none⟩ = some (.int .i64 a0_6) := (blk_cell BK396.out 6).trans rfl
            have hfz40_0 := blk_frozen BK396.out 0
            have hfz40_1 := blk_frozen BK396.out 1
            have hfz40_2 := blk_frozen BK396.out 2
            have hfz40_3 := blk_frozen BK396.out 3
            have hfz40_4 := blk_frozen BK396.out 4
            have hfz40_5 := blk_frozen BK396.out 5
            have hfz40_6 := blk_frozen BK396.out 6
            go_wp2
            go_meet
            case rel => exact ⟨_, ((t401 == a0_0 && ((t402 == a0_1 && (t403 == a0_2 && (t404 == a0_3))) && (t405 == a0_4 && (t406 == a0_5 && (t407 == a0_6)))))), (by first | rfl | (simp; done) | (simp [*]; done)), H', ⟨by have := HJ3.out; first | omega | exact Nat.le_refl _⟩, ⟨by (with_reducible repeat (first | refine blk_drewN ?_ _ | refine blk_drew ?_ | refine blk_alloc ?_ _)); refine blk_far ?_ NB396_409.out _; (with_reducible repeat (first | refine blk_drewN ?_ _ | refine blk_drew ?_ | refine blk_alloc ?_ _)); refine blk_far ?_ NB396_409.out _; (with_reducible repeat (first | refine blk_drewN ?_ _ | refine blk_drew ?_ | refine blk_alloc ?_ _)); refine blk_far ?_ NB396_409.out _; (with_reducible repeat (first | refine blk_drewN ?_ _ | refine blk_drew ?_ | refine blk_alloc ?_ _)); refine blk_far ?_ NB396_409.out _; (with_reducible repeat (first | refine blk_drewN ?_ _ | refine blk_drew ?_ | refine blk_alloc ?_ _)); refine blk_far ?_ NB396_409.out _; (with_reducible repeat (first | refine blk_drewN ?_ _ | refine blk_drew ?_ | refine blk_alloc ?_ _)); refine blk_far ?_ NB396_409.out _; (with_reducible repeat (first | refine blk_drewN ?_ _ | refine blk_drew ?_ | refine blk_alloc ?_ _)); refine blk_far ?_ NB396_409.out _; (with_reducible repeat (first | refine blk_drewN ?_ _ | refine blk_drew ?_ | refine blk_alloc ?_ _)); exact BK396.out⟩, ⟨by (with_reducible repeat (first | refine blk_drewN ?_ _ | refine blk_drew ?_ | refine blk_alloc ?_ _)); refine blk_far ?_ NB397_409.out _; (with_reducible repeat (first | refine blk_drewN ?_ _ | refine blk_drew ?_ | refine blk_alloc ?_ _)); refine blk_far ?_ NB397_409.out _; (with_reducible repeat (first | refine blk_drewN ?_ _ | refine blk_drew ?_ | refine blk_alloc ?_ _)); refine blk_far ?_ NB397_409.out _; (with_reducible repeat (first | refine blk_drewN ?_ _ | refine blk_drew ?_ | refine blk_alloc ?_ _)); refine blk_far ?_ NB397_409.out _; (with_reducible repeat (first | refine blk_drewN ?_ _ | refine blk_drew ?_ | refine blk_alloc ?_ _)); refine blk_far ?_ NB397_409.out _; (with_reducible repeat (first | refine blk_drewN ?_ _ | refine blk_drew ?_ | refine blk_alloc ?_ _)); refine blk_far ?_ NB397_409.out _; (with_reducible repeat (first | refine blk_drewN ?_ _ | refine blk_drew ?_ | refine blk_alloc ?_ _)); refine blk_far ?_ NB397_409.out _; (with_reducible repeat (first | refine blk_drewN ?_ _ | refine blk_drew ?_ | refine blk_alloc ?_ _)); exact BK397.out⟩, ⟨by (with_reducible repeat (first | refine blk_drewN ?_ _ | refine blk_drew ?_ | refine blk_alloc ?_ _)); refine blk_put (cs := #[.bool t401, .int .i64 t402, .int .i64 t403, .int .i64 t404, .int .i64 t405, .int .i64 t406, .int .i64 0]) ?_ 6 _ rfl; (with_reducible repeat (first | refine blk_drewN ?_ _ | refine blk_drew ?_ | refine blk_alloc ?_ _)); refine blk_put (cs := #[.bool t401, .int .i64 t402, .int .i64 t403, .int .i64 t404, .int .i64 t405, .int .i64 0, .int .i64 0]) ?_ 5 _ rfl; (with_reducible repeat (first | refine blk_drewN ?_ _ | refine blk_drew ?_ | refine blk_alloc ?_ _)); refine blk_put (cs := #[.bool t401, .int .i64 t402, .int .i64 t403, .int .i64 t404, .int .i64 0, .int .i64 0, .int .i64 0]) ?_ 4 _ rfl; (with_reducible repeat (first | refine blk_drewN ?_ _ | refine blk_drew ?_ | refine blk_alloc ?_ _)); refine blk_put (cs := #[.bool t401, .int .i64 t402, .int .i64 t403, .int .i64 0, .int .i64 0, .int .i64 0, .int .i64 0]) ?_ 3 _ rfl; (with_reducible repeat (first | refine blk_drewN ?_ _ | refine blk_drew ?_ | refine blk_alloc ?_ _)); refine blk_put (cs := #[.bool t401, .int .i64 t402, .int .i64 0, .int .i64 0, .int .i64 0, .int .i64 0, .int .i64 0]) ?_ 2 _ rfl; (with_reducible repeat (first | refine blk_drewN ?_ _ | refine blk_drew ?_ | refine blk_alloc ?_ _)); refine blk_put (cs := #[.bool t401, .int .i64 0, .int .i64 0, .int .i64 0, .int .i64 0, .int .i64 0, .int .i64 0]) ?_ 1 _ rfl; (with_reducible repeat (first | refine blk_drewN ?_ _ | refine blk_drew ?_ | refine blk_alloc ?_ _)); refine blk_put (cs := #[.bool false, .int .i64 0, .int .i64 0, .int .i64 0, .int .i64 0, .int .i64 0, .int .i64 0]) ?_ 0 _ rfl; (with_reducible repeat (first | refine blk_drewN ?_ _ | refine blk_drew ?_ | refine blk_alloc ?_ _)); exact BK409.out⟩, ⟨by repeat (first | (with_reducible first | exact HB.out | apply below_alloc | apply pw_below_drewN | apply below_drew1 | refine below_set ?_ GE396.out | refine below_set ?_ GE397.out | refine below_set ?_ GE409.out) | exact HB.out)⟩⟩
          · rw [if_neg c35] at H
            have c35b0 : (t408 == 0) = false := beq_eq_false_iff_ne.mpr c35
            have c35b1 : (t408 != 0) = true := bne_iff_ne.mpr c35
            (first | rw [c35b0] | (simp only [i64_w, i32_w]; rw [c35b0]) | skip)
            have H' := Aside0.mk H
            clear H
            go_wp2
            go_meet
            case rel => exact ⟨_, (true), (by first | rfl | (simp; done) | (simp [*]; done)), H', ⟨by have := HJ3.out; first | omega | exact Nat.le_refl _⟩, ⟨by (with_reducible repeat (first | refine blk_drewN ?_ _ | refine blk_drew ?_ | refine blk_alloc ?_ _)); refine blk_far ?_ NB396_409.out _; (with_reducible repeat (first | refine blk_drewN ?_ _ | refine blk_drew ?_ | refine blk_alloc ?_ _)); refine blk_far ?_ NB396_409.out _; (with_reducible repeat (first | refine blk_drewN ?_ _ | refine blk_drew ?_ | refine blk_alloc ?_ _)); refine blk_far ?_ NB396_409.out _; (with_reducible repeat (first | refine blk_drewN ?_ _ | refine blk_drew ?_ | refine blk_alloc ?_ _)); refine blk_far ?_ NB396_409.out _; (with_reducible repeat (first | refine blk_drewN ?_ _ | refine blk_drew ?_ | refine blk_alloc ?_ _)); refine blk_far ?_ NB396_409.out _; (with_reducible repeat (first | refine blk_drewN ?_ _ | refine blk_drew ?_ | refine blk_alloc ?_ _)); refine blk_far ?_ NB396_409.out _; (with_reducible repeat (first | refine blk_drewN ?_ _ | refine blk_drew ?_ | refine blk_alloc ?_ _)); refine blk_far ?_ NB396_409.out _; (with_reducible repeat (first | refine blk_drewN ?_ _ | refine blk_drew ?_ | refine blk_alloc ?_ _)); exact BK396.out⟩, ⟨by (with_reducible repeat (first | refine blk_drewN ?_ _ | refine blk_drew ?_ | refine blk_alloc ?_ _)); refine blk_far ?_ NB397_409.out _; (with_reducible repeat (first | refine blk_drewN ?_ _ | refine blk_drew ?_ | refine blk_alloc ?_ _)); refine blk_far ?_ NB397_409.out _; (with_reducible repeat (first | refine blk_drewN ?_ _ | refine blk_drew ?_ | refine blk_alloc ?_ _)); refine blk_far ?_ NB397_409.out _; (with_reducible repeat (first | refine blk_drewN ?_ _ | refine blk_drew ?_ | refine blk_alloc ?_ _)); refine blk_far ?_ NB397_409.out _; (with_reducible repeat (first | refine blk_drewN ?_ _ | refine blk_drew ?_ | refine blk_alloc ?_ _)); refine blk_far ?_ NB397_409.out _; (with_reducible repeat (first | refine blk_drewN ?_ _ | refine blk_drew ?_ | refine blk_alloc ?_ _)); refine blk_far ?_ NB397_409.out _; (with_reducible repeat (first | refine blk_drewN ?_ _ | refine blk_drew ?_ | refine blk_alloc ?_ _)); refine blk_far ?_ NB397_409.out _; (with_reducible repeat (first | refine blk_drewN ?_ _ | refine blk_drew ?_ | refine blk_alloc ?_ _)); exact BK397.out⟩, ⟨by (with_reducible repeat (first | refine blk_drewN ?_ _ | refine blk_drew ?_ | refine blk_alloc ?_ _)); refine blk_put (cs := #[.bool t401, .int .i64 t402, .int .i64 t403, .int .i64 t404, .int .i64 t405, .int .i64 t406, .int .i64 0]) ?_ 6 _ rfl; (with_reducible repeat (first | refine blk_drewN ?_ _ | refine blk_drew ?_ | refine blk_alloc ?_ _)); refine blk_put (cs := #[.bool t401, .int .i64 t402, .int .i64 t403, .int .i64 t404, .int .i64 t405, .int .i64 0, .int .i64 0]) ?_ 5 _ rfl; (with_reducible repeat (first | refine blk_drewN ?_ _ | refine blk_drew ?_ | refine blk_alloc ?_ _)); refine blk_put (cs := #[.bool t401, .int .i64 t402, .int .i64 t403, .int .i64 t404, .int .i64 0, .int .i64 0, .int .i64 0]) ?_ 4 _ rfl; (with_reducible repeat (first | refine blk_drewN ?_ _ | refine blk_drew ?_ | refine blk_alloc ?_ _)); refine blk_put (cs := #[.bool t401, .int .i64 t402, .int .i64 t403, .int .i64 0, .int .i64 0, .int .i64 0, .int .i64 0]) ?_ 3 _ rfl; (with_reducible repeat (first | refine blk_drewN ?_ _ | refine blk_drew ?_ | refine blk_alloc ?_ _)); refine blk_put (cs := #[.bool t401, .int .i64 t402, .int .i64 0, .int .i64 0, .int .i64 0, .int .i64 0, .int .i64 0]) ?_ 2 _ rfl; (with_reducible repeat (first | refine blk_drewN ?_ _ | refine blk_drew ?_ | refine blk_alloc ?_ _)); refine blk_put (cs := #[.bool t401, .int .i64 0, .int .i64 0, .int .i64 0, .int .i64 0, .int .i64 0, .int .i64 0]) ?_ 1 _ rfl; (with_reducible repeat (first | refine blk_drewN ?_ _ | refine blk_drew ?_ | refine blk_alloc ?_ _)); refine blk_put (cs := #[.bool false, .int .i64 0, .int .i64 0, .int .i64 0, .int .i64 0, .int .i64 0, .int .i64 0]) ?_ 0 _ rfl; (with_reducible repeat (first | refine blk_drewN ?_ _ | refine blk_drew ?_ | refine blk_alloc ?_ _)); exact BK409.out⟩, ⟨by repeat (first | (with_reducible first | exact HB.out | apply below_alloc | apply pw_below_drewN | apply below_drew1 | refine below_set ?_ GE396.out | refine below_set ?_ GE397.out | refine below_set ?_ GE409.out) | exact HB.out)⟩⟩
        case rest =>
          clear HC26
          try clear c1
          try clear c2
          try clear p2
          try clear c3
          try clear c6
          try clear c9
          try clear c10
          try clear c11
          try clear c12
          try clear c17
          try clear c20
          try clear c21
          try clear c24
          try clear c27
          try clear c32
          try clear c33
          try clear c35
          try clear c35b0
          try clear c35b1
          try clear c36
          try clear c37
          try clear c39
          try clear hcz13_0
          try clear hcz13_1
          try clear hcz13_2
          try clear hcz13_3
          try clear hcz13_4
          try clear hcz13_5
          try clear hcz13_6
          try clear hcz15_0
          try clear hcz15_1
          try clear hcz15_2
          try clear hcz15_3
          try clear hcz15_4
          try clear hcz15_5
          try clear hcz15_6
          try clear hcz18_0
          try clear hcz18_1
          try clear hcz18_2
          try clear hcz18_3
          try clear hcz18_4
          try clear hcz18_5
          try clear hcz18_6
          try clear hcz20_0
          try clear hcz20_1
          try clear hcz20_2
          try clear hcz20_3
          try clear hcz20_4
          try clear hcz20_5
          try clear hcz20_6
          try clear hcz22_0
          try clear hcz22_1
          try clear hcz22_2
          try clear hcz22_3
          try clear hcz22_4
          try clear hcz22_5
          try clear hcz22_6
          try clear hcz28_0
          try clear hcz28_1
          try clear hcz28_2
          try clear hcz28_3
          try clear hcz28_4
          try clear hcz28_5
          try clear hcz28_6
          try clear hcz29_0
          try clear hcz29_1
          try clear hcz29_2
          try clear hcz29_3
          try clear hcz29_4
          try clear hcz34_0
          try clear hcz34_1
          try clear hcz34_2
          try clear hcz34_3
          try clear hcz34_4
          try clear hcz34_5
          try clear hcz34_6
          try clear hcz38_0
          try clear hcz38_1
          try clear hcz38_2
          try clear hcz38_3
          try clear hcz38_4
          try clear hcz38_5
          try clear hcz38_6
          try clear hcz40_0
          try clear hcz40_1
          try clear hcz40_2
          try clear hcz40_3
          try clear hcz40_4
          try clear hcz40_5
          try clear hcz40_6
          try clear hfz13_0
          try clear hfz13_1
          try clear hfz13_2
          try clear hfz13_3
          try clear hfz13_4
          try clear hfz13_5
          try clear hfz13_6
          try clear hfz15_0
          try clear hfz15_1
          try clear hfz15_2
          try clear hfz15_3
          try clear hfz15_4
          try clear hfz15_5
          try clear hfz15_6
          try clear hfz18_0
          try clear hfz18_1
          try clear hfz18_2
          try clear hfz18_3
          try clear hfz18_4
          try clear hfz18_5
          try clear hfz18_6
          try clear hfz20_0
          try clear hfz20_1
          try clear hfz20_2
          try clear hfz20_3
          try clear hfz20_4
          try clear hfz20_5
          try clear hfz20_6
          try clear hfz22_0
          try clear hfz22_1
          try clear hfz22_2
          try clear hfz22_3
          try clear hfz22_4
          try clear hfz22_5
          try clear hfz22_6
          try clear hfz28_0
          try clear hfz28_1
          try clear hfz28_2
          try clear hfz28_3
          try clear hfz28_4
          try clear hfz28_5
          try clear hfz28_6
          try clear hfz29_0
          try clear hfz29_1
          try clear hfz29_2
          try clear hfz29_3
          try clear hfz29_4
          try clear hfz34_0
          try clear hfz34_1
          try clear hfz34_2
          try clear hfz34_3
          try clear hfz34_4
          try clear hfz34_5
          try clear hfz34_6
          try clear hfz38_0
          try clear hfz38_1
          try clear hfz38_2
          try clear hfz38_3
          try clear hfz38_4
          try clear hfz38_5
          try clear hfz38_6
          try clear hfz40_0
          try clear hfz40_1
          try clear hfz40_2
          try clear hfz40_3
          try clear hfz40_4
          try clear hfz40_5
          try clear hfz40_6
          try clear p2
          obtain ⟨kq, x42_25, rfl, HA, HJ25, BK396, BK397, BK409, HB⟩ := hcut
          cases kq with
          | zero => exact absurd HA.out (by simp [slotmeshlaw09_TimesyncBetter.j1])
          | succ kj25 =>
            have H := HA.out
            clear HA
            simp only [slotmeshlaw09_TimesyncBetter.j1] at H
            by_cases c41 : x42_25 = true
            · subst c41
              have H1 : (some t398) = some r := by rw [if_pos rfl] at H; exact H
              clear H
              have H := H1
              clear H1
              obtain rfl := Option.some.inj H
              go_wp2
              go_ret
              exact ⟨by first | rfl | (simp [errW_none, errW_some] <;> rfl) | (simp [*, errW_none, errW_some] <;> rfl), by repeat (first | (with_reducible first | exact HB.out | apply below_alloc | apply pw_below_drewN | apply below_drew1 | refine below_set ?_ GE396.out | refine below_set ?_ GE397.out | refine below_set ?_ GE409.out) | exact HB.out)⟩
            · replace c41 := Bool.eq_false_iff.mpr c41
              subst c41
              have H1 : ((bound_Heard.f kj25 a1_0 a1_1 a1_2 a1_3 a1_4).bind fun bt410 => (if bt410.2.2.2 = 0 then ((some (([(⟨a0_1, a0_2, a0_3⟩ : S23), (⟨bt410.1, bt410.2.1, bt410.2.2.1⟩ : S23)] : List (S23)) : List (S23))).bind fun y415 => (slotmeshlaw09_TimesyncBetter.l0 kj25 t398 y415 (y415.length : Int) 0 a0_0 a0_1 a0_2 a0_3 a0_4 a0_5 a0_6 t401 t402 t403 t404 t405 t406 t407 bt410.1 bt410.2.1 bt410.2.2.1)) else (none))) = some r := by rw [if_neg (show ¬ (false = true) by decide)] at H; exact H
              clear H
              have H := H1
              clear H1
              replace H := Option.bind_eq_some_iff.mp H
              obtain ⟨⟨t410, t411, t412, t413⟩, A420, H⟩ := H
              replace H : (if t413 = 0 then ((some (([(⟨a0_1, a0_2, a0_3⟩ : S23), (⟨t410, t411, t412⟩ : S23)] : List (S23)) : List (S23))).bind fun y415 => (slotmeshlaw09_TimesyncBetter.l0 kj25 t398 y415 (y415.length : Int) 0 a0_0 a0_1 a0_2 a0_3 a0_4 a0_5 a0_6 t401 t402 t403 t404 t405 t406 t407 t410 t411 t412)) else (none)) = some r := H
              have A42 := Aside0.mk A420
              clear A420
              by_cases c43 : t413 = 0
              · rw [if_pos c43] at H
                have c43b0 : (t413 == 0) = true := beq_iff_eq.mpr c43
                have c43b1 : (t413 != 0) = false := bne_eq_false_iff_eq.mpr c43
                clear c43
                obtain ⟨y415, hy415⟩ : ∃ y_ : List (S23), y_ = (([(⟨a0_1, a0_2, a0_3⟩ : S23), (⟨t410, t411, t412⟩ : S23)] : List (S23))) := ⟨_, rfl⟩
                replace H : (slotmeshlaw09_TimesyncBetter.l0 kj25 t398 y415 (y415.length : Int) 0 a0_0 a0_1 a0_2 a0_3 a0_4 a0_5 a0_6 t401 t402 t403 t404 t405 t406 t407 t410 t411 t412) = some r := by first | (rw [hy415]; with_reducible exact H) | (have H2_ := (Option.bind_some _ _).symm.trans H; rw [hy415]; with_reducible exact H2_) | (have H2_ := (Option.bind_some _ _).symm.trans H; with_reducible exact H2_) | with_reducible exact H | (rw [hy415]; exact H) | exact H
                have Ny415 := Aside0.mk hy415
                clear hy415
                have H' := Aside0.mk H
                clear H
                have hnb44 := NB397_396.out
                have hnc44 := NB396_397.out
                have hnb45 := NB397_409.out
                have hnc45 := NB409_397.out
                have hcz46_0 : wc.cell? ⟨gb397, 0, none⟩ = some (.int .i64 a1_0) := (blk_cell BK397.out 0).trans rfl
                have hcz46_1 : wc.cell? ⟨gb397, 1, none⟩ = some (.int .i64 a1_1) := (blk_cell BK397.out 1).trans rfl
                have hcz46_2 : wc.cell? ⟨gb397, 2, none⟩ = some (.int .i64 a1_2) := (blk_cell BK397.out 2).trans rfl
                have hcz46_3 : wc.cell? ⟨gb397, 3, none⟩ = some (.int .i64 a1_3) := (blk_cell BK397.out 3).trans rfl
                have hcz46_4 : wc.cell? ⟨gb397, 4, none⟩ = some (.int .i64 a1_4) := (blk_cell BK397.out 4).trans rfl
                have hfz46_0 := blk_frozen BK397.out 0
                have hfz46_1 := blk_frozen BK397.out 1
                have hfz46_2 := blk_frozen BK397.out 2
                have hfz46_3 := blk_frozen BK397.out 3
                have hfz46_4 := blk_frozen BK397.out 4
                go_wp2_with (first | ((with_reducible refine gate_callee (f := 22) rfl ?_); refine goesL_ (some 46) rfl rfl Try.func22 (by kernel_rfl) rfl #[.agg #[.int .i64 a1_0, .int .i64 a1_1, .int .i64 a1_2, .int .i64 a1_3, .int .i64 a1_4]] rfl (by (try simp only [List.map_toArray, List.map_cons, List.map_nil]); first | done | rfl | (simp only [List.length_drop, List.length_take]; rfl)) ?_; (with_reducible refine (bound_Heard.calls kj25 a1_0 a1_1 a1_2 a1_3 a1_4 t410 t411 t412 t413 _ A42.out).mono ?_); rintro e w47 ⟨rfl, hb⟩; refine ⟨_, rfl, ?_⟩; have n0_ := Aside0.mk (blk_below (g := gb396) (o := .cells #[.bool a0_0, .int .i64 a0_1, .int .i64 a0_2, .int .i64 a0_3, .int .i64 a0_4, .int .i64 a0_5, .int .i64 a0_6] 25 (0, 0)) (by (with_reducible repeat (first | refine blk_drewN ?_ _ | refine blk_drew ?_ | refine blk_alloc ?_ _)); exact BK396.out) hb); have n1_ := Aside0.mk (blk_below (g := gb397) (o := .cells #[.int .i64 a1_0, .int .i64 a1_1, .int .i64 a1_2, .int .i64 a1_3, .int .i64 a1_4] 27 (0, 0)) (by (with_reducible repeat (first | refine blk_drewN ?_ _ | refine blk_drew ?_ | refine blk_alloc ?_ _)); exact BK397.out) hb); have n2_ := Aside0.mk (blk_below (g := gb409) (o := .cells #[.bool t401, .int .i64 t402, .int .i64 t403, .int .i64 t404, .int .i64 t405, .int .i64 t406, .int .i64 t407] 25 (0, 0)) (by (with_reducible repeat (first | refine blk_drewN ?_ _ | refine blk_drew ?_ | refine blk_alloc ?_ _)); exact BK409.out) hb); have n3_ := Aside0.mk (below_step (by repeat (first | (with_reducible first | exact HB.out | apply below_alloc | apply pw_below_drewN | apply below_drew1 | refine below_set ?_ GE396.out | refine below_set ?_ GE397.out | refine below_set ?_ GE409.out) | exact HB.out)) hb); clear BK396; clear BK397; clear BK409; clear HB; have BK396 := n0_; have BK397 := n1_; have BK409 := n2_; have HB := n3_; clear n0_ n1_ n2_ n3_; (try clear hb); (try clear hb2); (try clear hk); (try clear hi)) | ((with_reducible refine gate_dst (N := 8) rfl ?_); (try (refine gate_guard (by rfl) ?_; dsimp only)); refine box_event ?hg (N := 8) ?hd (cs := #[.int .i64 0, .int .i64 0, .int .i64 0]) (t := 23) ?hr ?_; (case hd => rfl); (case hg => rfl); (case hr => first | (go_simp; done) | (go_simp; rfl)); intro gb414 hg w48 hbox hb; have n0_ := Aside0.mk (blk_below (g := gb396) (o := .cells #[.bool a0_0, .int .i64 a0_1, .int .i64 a0_2, .int .i64 a0_3, .int .i64 a0_4, .int .i64 a0_5, .int .i64 a0_6] 25 (0, 0)) (by (with_reducible repeat (first | refine blk_drewN ?_ _ | refine blk_drew ?_ | refine blk_alloc ?_ _)); exact BK396.out) hb); have n1_ := Aside0.mk (blk_below (g := gb397) (o := .cells #[.int .i64 a1_0, .int .i64 a1_1, .int .i64 a1_2, .int .i64 a1_3, .int .i64 a1_4] 27 (0, 0)) (by (with_reducible repeat (first | refine blk_drewN ?_ _ | refine blk_drew ?_ | refine blk_alloc ?_ _)); exact BK397.out) hb); have n2_ := Aside0.mk (blk_below (g := gb409) (o := .cells #[.bool t401, .int .i64 t402, .int .i64 t403, .int .i64 t404, .int .i64 t405, .int .i64 t406, .int .i64 t407] 25 (0, 0)) (by (with_reducible repeat (first | refine blk_drewN ?_ _ | refine blk_drew ?_ | refine blk_alloc ?_ _)); exact BK409.out) hb); have n3_ := Aside0.mk (below_step (by repeat (first | (with_reducible first | exact HB.out | apply below_alloc | apply pw_below_drewN | apply below_drew1 | refine below_set ?_ GE396.out | refine below_set ?_ GE397.out | refine below_set ?_ GE409.out) | exact HB.out)) hb); have n4_ := Aside0.mk (hbox); have n5_ := Aside0.mk ((by rw [hg]; exact (below_size (by repeat (first | (with_reducible first | exact HB.out | apply below_alloc | apply pw_below_drewN | apply below_drew1 | refine below_set ?_ GE396.out | refine below_set ?_ GE397.out | refine below_set ?_ GE409.out) | exact HB.out))) : w.heap.size ≤ gb414)); have n6_ := Aside0.mk ((by rw [hg]; exact (below_size (by repeat (first | (with_reducible first | exact HB.out | apply below_alloc | apply pw_below_drewN | apply below_drew1 | refine below_set ?_ GE396.out | refine below_set ?_ GE397.out | refine below_set ?_ GE409.out) | exact HB.out))) : w.heap.size ≤ gb414)); have n7_ := Aside0.mk ((by rw [hg]; exact Nat.ne_of_lt (blk_lt (g := gb396) (o := .cells #[.bool a0_0, .int .i64 a0_1, .int .i64 a0_2, .int .i64 a0_3, .int .i64 a0_4, .int .i64 a0_5, .int .i64 a0_6] 25 (0, 0)) (by (with_reducible repeat (first | refine blk_drewN ?_ _ | refine blk_drew ?_ | refine blk_alloc ?_ _)); exact BK396.out)) : gb396 ≠ gb414)); have n8_ := Aside0.mk ((by rw [hg]; exact Nat.ne_of_gt (blk_lt (g := gb396) (o := .cells #[.bool a0_0, .int .i64 a0_1, .int .i64 a0_2, .int .i64 a0_3, .int .i64 a0_4, .int .i64 a0_5, .int .i64 a0_6] 25 (0, 0)) (by (with_reducible repeat (first | refine blk_drewN ?_ _ | refine blk_drew ?_ | refine blk_alloc ?_ _)); exact BK396.out)) : gb414 ≠ gb396)); have n9_ := Aside0.mk ((by rw [hg]; exact Nat.ne_of_lt (blk_lt (g := gb397) (o := .cells #[.int .i64 a1_0, .int .i64 a1_1, .int .i64 a1_2, .int .i64 a1_3, .int .i64 a1_4] 27 (0, 0)) (by (with_reducible repeat (first | refine blk_drewN ?_ _ | refine blk_drew ?_ | refine blk_alloc ?_ _)); exact BK397.out)) : gb397 ≠ gb414)); have n10_ := Aside0.mk ((by rw [hg]; exact Nat.ne_of_gt (blk_lt (g := gb397) (o := .cells #[.int .i64 a1_0, .int .i64 a1_1, .int .i64 a1_2, .int .i64 a1_3, .int .i64 a1_4] 27 (0, 0)) (by (with_reducible repeat (first | refine blk_drewN ?_ _ | refine blk_drew ?_ | refine blk_alloc ?_ _)); exact BK397.out)) : gb414 ≠ gb397)); have n11_ := Aside0.mk ((by rw [hg]; exact Nat.ne_of_lt (blk_lt (g := gb409) (o := .cells #[.bool t401, .int .i64 t402, .int .i64 t403, .int .i64 t404, .int .i64 t405, .int .i64 t406, .int .i64 t407] 25 (0, 0)) (by (with_reducible repeat (first | refine blk_drewN ?_ _ | refine blk_drew ?_ | refine blk_alloc ?_ _)); exact BK409.out)) : gb409 ≠ gb414)); have n12_ := Aside0.mk ((by rw [hg]; exact Nat.ne_of_gt (blk_lt (g := gb409) (o := .cells #[.bool t401, .int .i64 t402, .int .i64 t403, .int .i64 t404, .int .i64 t405, .int .i64 t406, .int .i64 t407] 25 (0, 0)) (by (with_reducible repeat (first | refine blk_drewN ?_ _ | refine blk_drew ?_ | refine blk_alloc ?_ _)); exact BK409.out)) : gb414 ≠ gb409)); clear BK396; clear BK397; clear BK409; clear HB; have BK396 := n0_; have BK397 := n1_; have BK409 := n2_; have HB := n3_; have BK414 := n4_; have GW414 := n5_; have GE414 := n6_; have NB396_414 := n7_; have NB414_396 := n8_; have NB397_414 := n9_; have NB414_397 := n10_; have NB409_414 := n11_; have NB414_409 := n12_; clear n0_ n1_ n2_ n3_ n4_ n5_ n6_ n7_ n8_ n9_ n10_ n11_ n12_; clear hb hbox hg; have hnb49 := NB414_396.out; have hnc49 := NB396_414.out; have hnb50 := NB414_397.out; have hnc50 := NB397_414.out; have hnb51 := NB414_409.out; have hnc51 := NB409_414.out; have hcz52_0 : w48.cell? ⟨gb414, 0, none⟩ = some (.int .i64 0) := (blk_cell BK414.out 0).trans rfl; have hcz52_1 : w48.cell? ⟨gb414, 1, none⟩ = some (.int .i64 0) := (blk_cell BK414.out 1).trans rfl; have hcz52_2 : w48.cell? ⟨gb414, 2, none⟩ = some (.int .i64 0) := (blk_cell BK414.out 2).trans rfl; have hfz52_0 := blk_frozen BK414.out 0; have hfz52_1 := blk_frozen BK414.out 1; have hfz52_2 := blk_frozen BK414.out 2; have hnb53 := NB396_409.out; have hnc53 := NB409_396.out; have hcz54_0 : w48.cell? ⟨gb396, 0, none⟩ = some (.bool a0_0) := (blk_cell BK396.out 0).trans rfl; have hcz54_1 : w48.cell? ⟨gb396, 1, none⟩ = some (.int .i64 a0_1) := (blk_cell BK396.out 1).trans rfl; have hcz54_2 : w48.cell? ⟨gb396, 2, none⟩ = some (.int .i64 a0_2) := (blk_cell BK396.out 2).trans rfl; have hcz54_3 : w48.cell? ⟨gb396, 3, none⟩ = some (.int .i64 a0_3) := (blk_cell BK396.out 3).trans rfl; have hcz54_4 : w48.cell? ⟨gb396, 4, none⟩ = some (.int .i64 a0_4) := (blk_cell BK396.out 4).trans rfl; have hcz54_5 : w48.cell? ⟨gb396, 5, none⟩ = some (.int .i64 a0_5) := (blk_cell BK396.out 5).trans rfl; have hcz54_6 : w48.cell? ⟨gb396, 6, none⟩ = some (.int .i64 a0_6) := (blk_cell BK396.out 6).trans rfl; have hfz54_0 := blk_frozen BK396.out 0; have hfz54_1 := blk_frozen BK396.out 1; have hfz54_2 := blk_frozen BK396.out 2; have hfz54_3 := blk_frozen BK396.out 3; have hfz54_4 := blk_frozen BK396.out 4; have hfz54_5 := blk_frozen BK396.out 5; have hfz54_6 := blk_frozen BK396.out 6) | ((with_reducible refine gate_dst (N := 54) rfl ?_); (try (refine gate_guard (by rfl) ?_; dsimp only)); refine Kd.R_lit k23 _ 23 ?hg (N := 54) ?hd (xs := ([(⟨a0_1, a0_2, a0_3⟩ : S23), (⟨t410, t411, t412⟩ : S23)] : List (S23))) (inner := [.int .i64 a0_1, .int .i64 a0_2, .int .i64 a0_3, .int .i64 t410, .int .i64 t411, .int .i64 t412]) (ok := fun _ => True) (okp := fun _ => True) ?hr ?hp (fun _ hk => hk) trivial (Below.refl _ _) (Nat.le_refl _) (by simp) ?_; (case hd => rfl); (case hg => rfl); (case hr => first | (go_simp; done) | (go_simp; rfl)); (case hp => exact (Reps.c3 (show Kd.M k23 _ _ _ (⟨a0_1, a0_2, a0_3⟩ : S23) [.int .i64 a0_1, .int .i64 a0_2, .int .i64 a0_3] from (k23_mkM _ _ _ (⟨a0_1, a0_2, a0_3⟩ : S23) )) (Reps.c3 (show Kd.M k23 _ _ _ (⟨t410, t411, t412⟩ : S23) [.int .i64 t410, .int .i64 t411, .int .i64 t412] from (k23_mkM _ _ _ (⟨t410, t411, t412⟩ : S23) )) (Reps.none _ _)))); intro v416 w55 ho56 hb hg_ hnew_; clear hg_ hnew_; (first | rw [← Ny415.out] at ho56 | (simp only [Int.reduceToNat] at ho56; rw [← Ny415.out] at ho56)); have n0_ := Aside0.mk (Kd.R_lower (Kd.R_newB ho56 (g := gb414) (o := .cells #[.int .i64 t410, .int .i64 t411, .int .i64 t412] 23 (0, 0)) (by (with_reducible repeat (first | refine blk_drewN ?_ _ | refine blk_drew ?_ | refine blk_alloc ?_ _)); refine blk_put (cs := #[.int .i64 t410, .int .i64 t411, .int .i64 0]) ?_ 2 _ rfl; (with_reducible repeat (first | refine blk_drewN ?_ _ | refine blk_drew ?_ | refine blk_alloc ?_ _)); refine blk_put (cs := #[.int .i64 t410, .int .i64 0, .int .i64 0]) ?_ 1 _ rfl; (with_reducible repeat (first | refine blk_drewN ?_ _ | refine blk_drew ?_ | refine blk_alloc ?_ _)); refine blk_put (cs := #[.int .i64 0, .int .i64 0, .int .i64 0]) ?_ 0 _ rfl; (with_reducible repeat (first | refine blk_drewN ?_ _ | refine blk_drew ?_ | refine blk_alloc ?_ _)); exact BK414.out)) (below_size (by repeat (first | (with_reducible first | exact HB.out | apply below_alloc | apply pw_below_drewN | apply below_drew1 | refine below_set ?_ GE396.out | refine below_set ?_ GE397.out | refine below_set ?_ GE409.out | refine below_set ?_ GE414.out) | exact HB.out)))); have n1_ := Aside0.mk (blk_below (g := gb396) (o := .cells #[.bool a0_0, .int .i64 a0_1, .int .i64 a0_2, .int .i64 a0_3, .int .i64 a0_4, .int .i64 a0_5, .int .i64 a0_6] 25 (0, 0)) (by (with_reducible repeat (first | refine blk_drewN ?_ _ | refine blk_drew ?_ | refine blk_alloc ?_ _)); refine blk_far ?_ NB396_414.out _; (with_reducible repeat (first | refine blk_drewN ?_ _ | refine blk_drew ?_ | refine blk_alloc ?_ _)); refine blk_far ?_ NB396_414.out _; (with_reducible repeat (first | refine blk_drewN ?_ _ | refine blk_drew ?_ | refine blk_alloc ?_ _)); refine blk_far ?_ NB396_414.out _; (with_reducible repeat (first | refine blk_drewN ?_ _ | refine blk_drew ?_ | refine blk_alloc ?_ _)); exact BK396.out) hb); have n2_ := Aside0.mk (blk_below (g := gb397) (o := .cells #[.int .i64 a1_0, .int .i64 a1_1, .int .i64 a1_2, .int .i64 a1_3, .int .i64 a1_4] 27 (0, 0)) (by (with_reducible repeat (first | refine blk_drewN ?_ _ | refine blk_drew ?_ | refine blk_alloc ?_ _)); refine blk_far ?_ NB397_414.out _; (with_reducible repeat (first | refine blk_drewN ?_ _ | refine blk_drew ?_ | refine blk_alloc ?_ _)); refine blk_far ?_ NB397_414.out _; (with_reducible repeat (first | refine blk_drewN ?_ _ | refine blk_drew ?_ | refine blk_alloc ?_ _)); refine blk_far ?_ NB397_414.out _; (with_reducible repeat (first | refine blk_drewN ?_ _ | refine blk_drew ?_ | refine blk_alloc ?_ _)); exact BK397.out) hb); have n3_ := Aside0.mk (blk_below (g := gb409) (o := .cells #[.bool t401, .int .i64 t402, .int .i64 t403, .int .i64 t404, .int .i64 t405, .int .i64 t406, .int .i64 t407] 25 (0, 0)) (by (with_reducible repeat (first | refine blk_drewN ?_ _ | refine blk_drew ?_ | refine blk_alloc ?_ _)); refine blk_far ?_ NB409_414.out _; (with_reducible repeat (first | refine blk_drewN ?_ _ | refine blk_drew ?_ | refine blk_alloc ?_ _)); refine blk_far ?_ NB409_414.out _; (with_reducible repeat (first | refine blk_drewN ?_ _ | refine blk_drew ?_ | refine blk_alloc ?_ _)); refine blk_far ?_ NB409_414.out _; (with_reducible repeat (first | refine blk_drewN ?_ _ | refine blk_drew ?_ | refine blk_alloc ?_ _)); exact BK409.out) hb); have n4_ := Aside0.mk (blk_below (g := gb414) (o := .cells #[.int .i64 t410, .int .i64 t411, .int .i64 t412] 23 (0, 0)) (by (with_reducible repeat (first | refine blk_drewN ?_ _ | refine blk_drew ?_ | refine blk_alloc ?_ _)); refine blk_put (cs := #[.int .i64 t410, .int .i64 t411, .int .i64 0]) ?_ 2 _ rfl; (with_reducible repeat (first | refine blk_drewN ?_ _ | refine blk_drew ?_ | refine blk_alloc ?_ _)); refine blk_put (cs := #[.int .i64 t410, .int .i64 0, .int .i64 0]) ?_ 1 _ rfl; (with_reducible repeat (first | refine blk_drewN ?_ _ | refine blk_drew ?_ | refine blk_alloc ?_ _)); refine blk_put (cs := #[.int .i64 0, .int .i64 0, .int .i64 0]) ?_ 0 _ rfl; (with_reducible repeat (first | refine blk_drewN ?_ _ | refine blk_drew ?_ | refine blk_alloc ?_ _)); exact BK414.out) hb); have n5_ := Aside0.mk (below_step (by repeat (first | (with_reducible first | exact HB.out | apply below_alloc | apply pw_below_drewN | apply below_drew1 | refine below_set ?_ GE396.out | refine below_set ?_ GE397.out | refine below_set ?_ GE409.out | refine below_set ?_ GE414.out) | exact HB.out)) hb); clear BK396; clear BK397; clear BK409; clear BK414; clear HB; have HO417 := n0_; have BK396 := n1_; have BK397 := n2_; have BK409 := n3_; have BK414 := n4_; have HB := n5_; clear n0_ n1_ n2_ n3_ n4_ n5_; clear hb ho56; obtain ⟨Ao57, co57, eo57⟩ := Kd.R_slice HO417.out; subst eo57))
                go_loopg [56] kj25 (fun kq v56 w' => ∃ (x56_3 : Int), v56 = .int .i64 x56_3 ∧ Aside0 (slotmeshlaw09_TimesyncBetter.l0 kq t398 y415 (y415.length : Int) x56_3 a0_0 a0_1 a0_2 a0_3 a0_4 a0_5 a0_6 t401 t402 t403 t404 t405 t406 t407 t410 t411 t412 = some r) ∧ Aside0 (kq ≤ kj25) ∧ Aside0 (Kd.R k23 23 w' w.heap.size (fun k_ => k_ ≠ gb414) (.slice Ao57 y415.length co57) y415) ∧ Aside0 (w'.heap[gb396]? = some (.cells #[.bool a0_0, .int .i64 a0_1, .int .i64 a0_2, .int .i64 a0_3, .int .i64 a0_4, .int .i64 a0_5, .int .i64 a0_6] 25 (0, 0))) ∧ Aside0 (w'.heap[gb397]? = some (.cells #[.int .i64 a1_0, .int .i64 a1_1, .int .i64 a1_2, .int .i64 a1_3, .int .i64 a1_4] 27 (0, 0))) ∧ Aside0 (w'.heap[gb409]? = some (.cells #[.bool t401, .int .i64 t402, .int .i64 t403, .int .i64 t404, .int .i64 t405, .int .i64 t406, .int .i64 t407] 25 (0, 0))) ∧ Aside0 (w'.heap[gb414]? = some (.cells #[.int .i64 t410, .int .i64 t411, .int .i64 t412] 23 (0, 0))) ∧ Aside0 (Below w.heap.size w w'))
                case atStart => exact ⟨(0), (by first | rfl | (simp; done) | (simp [*]; done)), H', ⟨Nat.le_refl _⟩, ⟨by (with_reducible repeat (first | apply Kd.R_alloc | apply Kd.R_drewN | apply Kd.R_drew)); exact Kd.R_mono HO417.out (fun _ hk => hk.2)⟩, ⟨by (with_reducible repeat (first | refine blk_drewN ?_ _ | refine blk_drew ?_ | refine blk_alloc ?_ _)); exact BK396.out⟩, ⟨by (with_reducible repeat (first | refine blk_drewN ?_ _ | refine blk_drew ?_ | refine blk_alloc ?_ _)); exact BK397.out⟩, ⟨by (with_reducible repeat (first | refine blk_drewN ?_ _ | refine blk_drew ?_ | refine blk_alloc ?_ _)); exact BK409.out⟩, ⟨by (with_reducible repeat (first | refine blk_drewN ?_ _ | refine blk_drew ?_ | refine blk_alloc ?_ _)); exact BK414.out⟩, ⟨by repeat (first | (with_reducible first | exact HB.out | apply below_alloc | apply pw_below_drewN | apply below_drew1 | refine below_set ?_ GE396.out | refine below_set ?_ GE397.out | refine below_set ?_ GE409.out | refine below_set ?_ GE414.out) | exact HB.out)⟩⟩
                case round =>
                  clear H'
                  try clear c1
                  try clear c2
                  try clear p2
                  try clear c3
                  try clear c4
                  try clear c5
                  try clear c6
                  try clear c9
                  try clear c10
                  try clear c11
                  try clear c12
                  try clear c17
                  try clear c20
                  try clear c21
                  try clear c22
                  try clear c24
                  try clear c27
                  try clear c32
                  try clear c33
                  try clear c35
                  try clear c35b0
                  try clear c35b1
                  try clear c36
                  try clear c37
                  try clear c39
                  try clear c41
                  try clear c43
                  try clear c43b0
                  try clear c43b1
                  try clear c44
                  try clear c45
                  try clear c49
                  try clear c50
                  try clear c51
                  try clear c53
                  try clear hcz13_0
                  try clear hcz13_1
                  try clear hcz13_2
                  try clear hcz13_3
                  try clear hcz13_4
                  try clear hcz13_5
                  try clear hcz13_6
                  try clear hcz15_0
                  try clear hcz15_1
                  try clear hcz15_2
                  try clear hcz15_3
                  try clear hcz15_4
                  try clear hcz15_5
                  try clear hcz15_6
                  try clear hcz18_0
                  try clear hcz18_1
                  try clear hcz18_2
                  try clear hcz18_3
                  try clear hcz18_4
                  try clear hcz18_5
                  try clear hcz18_6
                  try clear hcz20_0
                  try clear hcz20_1
                  try clear hcz20_2
                  try clear hcz20_3
                  try clear hcz20_4
                  try clear hcz20_5
                  try clear hcz20_6
                  try clear hcz22_0
                  try clear hcz22_1
                  try clear hcz22_2
                  try clear hcz22_3
                  try clear hcz22_4
                  try clear hcz22_5
                  try clear hcz22_6
                  try clear hcz28_0
                  try clear hcz28_1
                  try clear hcz28_2
                  try clear hcz28_3
                  try clear hcz28_4
                  try clear hcz28_5
                  try clear hcz28_6
                  try clear hcz29_0
                  try clear hcz29_1
                  try clear hcz29_2
                  try clear hcz29_3
                  try clear hcz29_4
                  try clear hcz34_0
                  try clear hcz34_1
                  try clear hcz34_2
                  try clear hcz34_3
                  try clear hcz34_4
                  try clear hcz34_5
                  try clear hcz34_6
                  try clear hcz38_0
                  try clear hcz38_1
                  try clear hcz38_2
                  try clear hcz38_3
                  try clear hcz38_4
                  try clear hcz38_5
                  try clear hcz38_6
                  try clear hcz40_0
                  try clear hcz40_1
                  try clear hcz40_2
                  try clear hcz40_3
                  try clear hcz40_4
                  try clear hcz40_5
                  try clear hcz40_6
                  try clear hcz46_0
                  try clear hcz46_1
                  try clear hcz46_2
                  try clear hcz46_3
                  try clear hcz46_4
                  try clear hcz52_0
                  try clear hcz52_1
                  try clear hcz52_2
                  try clear hcz54_0
                  try clear hcz54_1
                  try clear hcz54_2
                  try clear hcz54_3
                  try clear hcz54_4
                  try clear hcz54_5
                  try clear hcz54_6
                  try clear hfz13_0
                  try clear hfz13_1
                  try clear hfz13_2
                  try clear hfz13_3
                  try clear hfz13_4
                  try clear hfz13_5
                  try clear hfz13_6
                  try clear hfz15_0
                  try clear hfz15_1
                  try clear hfz15_2
                  try clear hfz15_3
                  try clear hfz15_4
                  try clear hfz15_5
                  try clear hfz15_6
                  try clear hfz18_0
                  try clear hfz18_1
                  try clear hfz18_2
                  try clear hfz18_3
                  try clear hfz18_4
                  try clear hfz18_5
                  try clear hfz18_6
                  try clear hfz20_0
                  try clear hfz20_1
                  try clear hfz20_2
                  try clear hfz20_3
                  try clear hfz20_4
                  try clear hfz20_5
                  try clear hfz20_6
                  try clear hfz22_0
                  try clear hfz22_1
                  try clear hfz22_2
                  try clear hfz22_3
                  try clear hfz22_4
                  try clear hfz22_5
                  try clear hfz22_6
                  try clear hfz28_0
                  try clear hfz28_1
                  try clear hfz28_2
                  try clear hfz28_3
                  try clear hfz28_4
                  try clear hfz28_5
                  try clear hfz28_6
                  try clear hfz29_0
                  try clear hfz29_1
                  try clear hfz29_2
                  try clear hfz29_3
                  try clear hfz29_4
                  try clear hfz34_0
                  try clear hfz34_1
                  try clear hfz34_2
                  try clear hfz34_3
                  try clear hfz34_4
                  try clear hfz34_5
                  try clear hfz34_6
                  try clear hfz38_0
                  try clear hfz38_1
                  try clear hfz38_2
                  try clear hfz38_3
                  try clear hfz38_4
                  try clear hfz38_5
                  try clear hfz38_6
                  try clear hfz40_0
                  try clear hfz40_1
                  try clear hfz40_2
                  try clear hfz40_3
                  try clear hfz40_4
                  try clear hfz40_5
                  try clear hfz40_6
                  try clear hfz46_0
                  try clear hfz46_1
                  try clear hfz46_2
                  try clear hfz46_3
                  try clear hfz46_4
                  try clear hfz52_0
                  try clear hfz52_1
                  try clear hfz52_2
                  try clear hfz54_0
                  try clear hfz54_1
                  try clear hfz54_2
                  try clear hfz54_3
                  try clear hfz54_4
                  try clear hfz54_5
                  try clear hfz54_6
                  try clear p2
                  obtain ⟨x56_3, rfl, HA, HK3, HO_54, BK396, BK397, BK409, BK414, HB⟩ := hrel
                  cases gk with
                  | zero => exact absurd HA.out (by simp [slotmeshlaw09_TimesyncBetter.l0])
                  | succ k3 =>
                    have H := HA.out
                    clear HA
                    simp only [slotmeshlaw09_TimesyncBetter.l0] at H
                    by_cases c58 : x56_3 < (y415.length : Int)
                    · rw [if_pos c58] at H
                      have c58b0 : decide (x56_3 < (y415.length : Int)) = true := decide_eq_true c58
                      clear c58
                      by_cases c59 : 0 ≤ x56_3
                      · rw [if_pos c59] at H
                        have c59b0 : decide (0 ≤ x56_3) = true := decide_eq_true c59
                        clear c59
                        by_cases c60 : x56_3 < (y415.length : Int)
                        · rw [if_pos c60] at H
                          have c60b0 : decide (x56_3 < (y415.length : Int)) = true := decide_eq_true c60
                          clear c60
                          by_cases c61 : ((rd_T23 y415 x56_3).f2) = t404
                          · rw [if_pos c61] at H
                            have c61b0 : (((rd_T23 y415 x56_3).f2) == t404) = true := beq_iff_eq.mpr c61
                            have c61b1 : (((rd_T23 y415 x56_3).f2) != t404) = false := bne_eq_false_iff_eq.mpr c61
                            clear c61
                            by_cases c62 : a0_3 = t412
                            · rw [if_pos c62] at H
                              have c62b0 : (a0_3 == t412) = true := beq_iff_eq.mpr c62
                              have c62b1 : (a0_3 != t412) = false := bne_eq_false_iff_eq.mpr c62
                              clear c62
                              replace H := Option.bind_eq_some_iff.mp H
                              obtain ⟨⟨t420, t421, t422, t423⟩, A630, H⟩ := H
                              replace H : (if t423 = 0 then (if t402 < t420 then (none) else (if t403 > t421 then (none) else (slotmeshlaw09_TimesyncBetter.l0 k3 t398 y415 (y415.length : Int) (wrap64 (x56_3 + 1)) a0_0 a0_1 a0_2 a0_3 a0_4 a0_5 a0_6 t401 t402 t403 t404 t405 t406 t407 t410 t411 t412))) else (none)) = some r := H
                              have A63 := Aside0.mk A630
                              clear A630
                              by_cases c64 : t423 = 0
                              · rw [if_pos c64] at H
                                have c64b0 : (t423 == 0) = true := beq_iff_eq.mpr c64
                                have c64b1 : (t423 != 0) = false := bne_eq_false_iff_eq.mpr c64
                                clear c64
                                by_cases c65 : t402 < t420
                                · rw [if_pos c65] at H
                                  exact absurd H (by simp)
                                · rw [if_neg c65] at H
                                  have c65b0 : decide (t402 < t420) = false := decide_eq_false c65
                                  clear c65
                                  by_cases c66 : t403 > t421
                                  · rw [if_pos c66] at H
                                    exact absurd H (by simp)
                                  · rw [if_neg c66] at H
                                    have c66b0 : decide (t421 < t403) = false := decide_eq_false c66
                                    clear c66
                                    have H' := Aside0.mk H
                                    clear H
                                    have p418 : 0 ≤ (x56_3 : Int) := of_decide_eq_true (by first | (with_reducible assumption) | assumption)
                                    have q418 : x56_3 < (y415.length : Int) := of_decide_eq_true (by first | (with_reducible assumption) | assumption)
                                    obtain ⟨ad418, e418, hx418_0, hx418_1, hx418_2⟩ := at_T23 (Kd.R_reads' HO_54.out).2.2 x56_3 p418 q418
                                    cases e418
                                    replace p418 := eq_true p418
                                    replace q418 := eq_true q418
                                    go_wp2_with (first | ((with_reducible refine gate_dst (N := 11) rfl ?_); (try (refine gate_guard (by rfl) ?_; dsimp only)); refine box_event ?hg (N := 11) ?hd (cs := #[.int .i64 0, .int .i64 0, .int .i64 0]) (t := 23) ?hr ?_; (case hd => rfl); (case hg => rfl); (case hr => first | (go_simp; done) | (go_simp; rfl)); intro gb419 hg w67 hbox hb; have n0_ := Aside0.mk (Kd.R_below (Kd.R_elderB (by (with_reducible repeat (first | apply Kd.R_alloc | apply Kd.R_drewN | apply Kd.R_drew)); exact HO_54.out) gb419 (Nat.le_of_eq hg.symm)) hb); have n1_ := Aside0.mk (blk_below (g := gb396) (o := .cells #[.bool a0_0, .int .i64 a0_1, .int .i64 a0_2, .int .i64 a0_3, .int .i64 a0_4, .int .i64 a0_5, .int .i64 a0_6] 25 (0, 0)) (by (with_reducible repeat (first | refine blk_drewN ?_ _ | refine blk_drew ?_ | refine blk_alloc ?_ _)); exact BK396.out) hb); have n2_ := Aside0.mk (blk_below (g := gb397) (o := .cells #[.int .i64 a1_0, .int .i64 a1_1, .int .i64 a1_2, .int .i64 a1_3, .int .i64 a1_4] 27 (0, 0)) (by (with_reducible repeat (first | refine blk_drewN ?_ _ | refine blk_drew ?_ | refine blk_alloc ?_ _)); exact BK397.out) hb); have n3_ := Aside0.mk (blk_below (g := gb409) (o := .cells #[.bool t401, .int .i64 t402, .int .i64 t403, .int .i64 t404, .int .i64 t405, .int .i64 t406, .int .i64 t407] 25 (0, 0)) (by (with_reducible repeat (first | refine blk_drewN ?_ _ | refine blk_drew ?_ | refine blk_alloc ?_ _)); exact BK409.out) hb); have n4_ := Aside0.mk (blk_below (g := gb414) (o := .cells #[.int .i64 t410, .int .i64 t411, .int .i64 t412] 23 (0, 0)) (by (with_reducible repeat (first | refine blk_drewN ?_ _ | refine blk_drew ?_ | refine blk_alloc ?_ _)); exact BK414.out) hb); have n5_ := Aside0.mk (below_step (by repeat (first | (with_reducible first | exact HB.out | apply below_alloc | apply pw_below_drewN | apply below_drew1 | refine below_set ?_ GE396.out | refine below_set ?_ GE397.out | refine below_set ?_ GE409.out | refine below_set ?_ GE414.out) | exact HB.out)) hb); have n6_ := Aside0.mk (hbox); have n7_ := Aside0.mk ((by rw [hg]; exact (below_size (by repeat (first | (with_reducible first | exact HB.out | apply below_alloc | apply pw_below_drewN | apply below_drew1 | refine below_set ?_ GE396.out | refine below_set ?_ GE397.out | refine below_set ?_ GE409.out | refine below_set ?_ GE414.out) | exact HB.out))) : w.heap.size ≤ gb419)); have n8_ := Aside0.mk ((by rw [hg]; exact (below_size (by repeat (first | (with_reducible first | exact HB.out | apply below_alloc | apply pw_below_drewN | apply below_drew1 | refine below_set ?_ GE396.out | refine below_set ?_ GE397.out | refine below_set ?_ GE409.out | refine below_set ?_ GE414.out) | exact HB.out))) : w.heap.size ≤ gb419)); have n9_ := Aside0.mk ((by rw [hg]; exact Nat.ne_of_lt (blk_lt (g := gb396) (o := .cells #[.bool a0_0, .int .i64 a0_1, .int .i64 a0_2, .int .i64 a0_3, .int .i64 a0_4, .int .i64 a0_5, .int .i64 a0_6] 25 (0, 0)) (by (with_reducible repeat (first | refine blk_drewN ?_ _ | refine blk_drew ?_ | refine blk_alloc ?_ _)); exact BK396.out)) : gb396 ≠ gb419)); have n10_ := Aside0.mk ((by rw [hg]; exact Nat.ne_of_gt (blk_lt (g := gb396) (o := .cells #[.bool a0_0, .int .i64 a0_1, .int .i64 a0_2, .int .i64 a0_3, .int .i64 a0_4, .int .i64 a0_5, .int .i64 a0_6] 25 (0, 0)) (by (with_reducible repeat (first | refine blk_drewN ?_ _ | refine blk_drew ?_ | refine blk_alloc ?_ _)); exact BK396.out)) : gb419 ≠ gb396)); have n11_ := Aside0.mk ((by rw [hg]; exact Nat.ne_of_lt (blk_lt (g := gb397) (o := .cells #[.int .i64 a1_0, .int .i64 a1_1, .int .i64 a1_2, .int .i64 a1_3, .int .i64 a1_4] 27 (0, 0)) (by (with_reducible repeat (first | refine blk_drewN ?_ _ | refine blk_drew ?_ | refine blk_alloc ?_ _)); exact BK397.out)) : gb397 ≠ gb419)); have n12_ := Aside0.mk ((by rw [hg]; exact Nat.ne_of_gt (blk_lt (g := gb397) (o := .cells #[.int .i64 a1_0, .int .i64 a1_1, .int .i64 a1_2, .int .i64 a1_3, .int .i64 a1_4] 27 (0, 0)) (by (with_reducible repeat (first | refine blk_drewN ?_ _ | refine blk_drew ?_ | refine blk_alloc ?_ _)); exact BK397.out)) : gb419 ≠ gb397)); have n13_ := Aside0.mk ((by rw [hg]; exact Nat.ne_of_lt (blk_lt (g := gb409) (o := .cells #[.bool t401, .int .i64 t402, .int .i64 t403, .int .i64 t404, .int .i64 t405, .int .i64 t406, .int .i64 t407] 25 (0, 0)) (by (with_reducible repeat (first | refine blk_drewN ?_ _ | refine blk_drew ?_ | refine blk_alloc ?_ _)); exact BK409.out)) : gb409 ≠ gb419)); have n14_ := Aside0.mk ((by rw [hg]; exact Nat.ne_of_gt (blk_lt (g := gb409) (o := .cells #[.bool t401, .int .i64 t402, .int .i64 t403, .int .i64 t404, .int .i64 t405, .int .i64 t406, .int .i64 t407] 25 (0, 0)) (by (with_reducible repeat (first | refine blk_drewN ?_ _ | refine blk_drew ?_ | refine blk_alloc ?_ _)); exact BK409.out)) : gb419 ≠ gb409)); have n15_ := Aside0.mk ((by rw [hg]; exact Nat.ne_of_lt (blk_lt (g := gb414) (o := .cells #[.int .i64 t410, .int .i64 t411, .int .i64 t412] 23 (0, 0)) (by (with_reducible repeat (first | refine blk_drewN ?_ _ | refine blk_drew ?_ | refine blk_alloc ?_ _)); exact BK414.out)) : gb414 ≠ gb419)); have n16_ := Aside0.mk ((by rw [hg]; exact Nat.ne_of_gt (blk_lt (g := gb414) (o := .cells #[.int .i64 t410, .int .i64 t411, .int .i64 t412] 23 (0, 0)) (by (with_reducible repeat (first | refine blk_drewN ?_ _ | refine blk_drew ?_ | refine blk_alloc ?_ _)); exact BK414.out)) : gb419 ≠ gb414)); clear HO_54; clear BK396; clear BK397; clear BK409; clear BK414; clear HB; have HO_54 := n0_; have BK396 := n1_; have BK397 := n2_; have BK409 := n3_; have BK414 := n4_; have HB := n5_; have BK419 := n6_; have GW419 := n7_; have GE419 := n8_; have NB396_419 := n9_; have NB419_396 := n10_; have NB397_419 := n11_; have NB419_397 := n12_; have NB409_419 := n13_; have NB419_409 := n14_; have NB414_419 := n15_; have NB419_414 := n16_; clear n0_ n1_ n2_ n3_ n4_ n5_ n6_ n7_ n8_ n9_ n10_ n11_ n12_ n13_ n14_ n15_ n16_; clear hb hbox hg; have hnb68 := NB419_396.out; have hnc68 := NB396_419.out; have hnb69 := NB419_397.out; have hnc69 := NB397_419.out; have hnb70 := NB419_409.out; have hnc70 := NB409_419.out; have hnb71 := NB419_414.out; have hnc71 := NB414_419.out; have hcz72_0 : w67.cell? ⟨gb419, 0, none⟩ = some (.int .i64 0) := (blk_cell BK419.out 0).trans rfl; have hcz72_1 : w67.cell? ⟨gb419, 1, none⟩ = some (.int .i64 0) := (blk_cell BK419.out 1).trans rfl; have hcz72_2 : w67.cell? ⟨gb419, 2, none⟩ = some (.int .i64 0) := (blk_cell BK419.out 2).trans rfl; have hfz72_0 := blk_frozen BK419.out 0; have hfz72_1 := blk_frozen BK419.out 1; have hfz72_2 := blk_frozen BK419.out 2; have hnb73 := NB409_396.out; have hnc73 := NB396_409.out; have hnb74 := NB409_397.out; have hnc74 := NB397_409.out; have hnb75 := NB409_414.out; have hnc75 := NB414_409.out; have hcz76_0 : w67.cell? ⟨gb409, 0, none⟩ = some (.bool t401) := (blk_cell BK409.out 0).trans rfl; have hcz76_1 : w67.cell? ⟨gb409, 1, none⟩ = some (.int .i64 t402) := (blk_cell BK409.out 1).trans rfl; have hcz76_2 : w67.cell? ⟨gb409, 2, none⟩ = some (.int .i64 t403) := (blk_cell BK409.out 2).trans rfl; have hcz76_3 : w67.cell? ⟨gb409, 3, none⟩ = some (.int .i64 t404) := (blk_cell BK409.out 3).trans rfl; have hcz76_4 : w67.cell? ⟨gb409, 4, none⟩ = some (.int .i64 t405) := (blk_cell BK409.out 4).trans rfl; have hcz76_5 : w67.cell? ⟨gb409, 5, none⟩ = some (.int .i64 t406) := (blk_cell BK409.out 5).trans rfl; have hcz76_6 : w67.cell? ⟨gb409, 6, none⟩ = some (.int .i64 t407) := (blk_cell BK409.out 6).trans rfl; have hfz76_0 := blk_frozen BK409.out 0; have hfz76_1 := blk_frozen BK409.out 1; have hfz76_2 := blk_frozen BK409.out 2; have hfz76_3 := blk_frozen BK409.out 3; have hfz76_4 := blk_frozen BK409.out 4; have hfz76_5 := blk_frozen BK409.out 5; have hfz76_6 := blk_frozen BK409.out 6; have hnb77 := NB396_397.out; have hnc77 := NB397_396.out; have hnb78 := NB396_414.out; have hnc78 := NB414_396.out; have hcz79_0 : w67.cell? ⟨gb396, 0, none⟩ = some (.bool a0_0) := (blk_cell BK396.out 0).trans rfl; have hcz79_1 : w67.cell? ⟨gb396, 1, none⟩ = some (.int .i64 a0_1) := (blk_cell BK396.out 1).trans rfl; have hcz79_2 : w67.cell? ⟨gb396, 2, none⟩ = some (.int .i64 a0_2) := (blk_cell BK396.out 2).trans rfl; have hcz79_3 : w67.cell? ⟨gb396, 3, none⟩ = some (.int .i64 a0_3) := (blk_cell BK396.out 3).trans rfl; have hcz79_4 : w67.cell? ⟨gb396, 4, none⟩ = some (.int .i64 a0_4) := (blk_cell BK396.out 4).trans rfl; have hcz79_5 : w67.cell? ⟨gb396, 5, none⟩ = some (.int .i64 a0_5) := (blk_cell BK396.out 5).trans rfl; have hcz79_6 : w67.cell? ⟨gb396, 6, none⟩ = some (.int .i64 a0_6) := (blk_cell BK396.out 6).trans rfl; have hfz79_0 := blk_frozen BK396.out 0; have hfz79_1 := blk_frozen BK396.out 1; have hfz79_2 := blk_frozen BK396.out 2; have hfz79_3 := blk_frozen BK396.out 3; have hfz79_4 := blk_frozen BK396.out 4; have hfz79_5 := blk_frozen BK396.out 5; have hfz79_6 := blk_frozen BK396.out 6; have hnb80 := NB414_397.out; have hnc80 := NB397_414.out; have hcz81_0 : w67.cell? ⟨gb414, 0, none⟩ = some (.int .i64 t410) := (blk_cell BK414.out 0).trans rfl; have hcz81_1 : w67.cell? ⟨gb414, 1, none⟩ = some (.int .i64 t411) := (blk_cell BK414.out 1).trans rfl; have hcz81_2 : w67.cell? ⟨gb414, 2, none⟩ = some (.int .i64 t412) := (blk_cell BK414.out 2).trans rfl; have hfz81_0 := blk_frozen BK414.out 0; have hfz81_1 := blk_frozen BK414.out 1; have hfz81_2 := blk_frozen BK414.out 2) | ((with_reducible refine gate_callee (f := 23) rfl ?_); refine goesL_ (some 87) rfl rfl Try.func23 (by kernel_rfl) rfl #[.agg #[.int .i64 ((rd_T23 y415 x56_3).f0), .int .i64 ((rd_T23 y415 x56_3).f1), .int .i64 ((rd_T23 y415 x56_3).f2)], .int .i64 ((rd_T23 y415 x56_3).f2)] rfl (by (try simp only [List.map_toArray, List.map_cons, List.map_nil]); first | done | rfl | (simp only [List.length_drop, List.length_take]; rfl)) ?_; (with_reducible refine (bound_Grow.calls k3 ((rd_T23 y415 x56_3).f0) ((rd_T23 y415 x56_3).f1) ((rd_T23 y415 x56_3).f2) ((rd_T23 y415 x56_3).f2) t420 t421 t422 t423 _ A63.out).mono ?_); rintro e w82 ⟨rfl, hb⟩; refine ⟨_, rfl, ?_⟩; have n0_ := Aside0.mk (Kd.R_below (by (with_reducible repeat (first | apply Kd.R_alloc | apply Kd.R_drewN | apply Kd.R_drew)); exact (Kd.R_mono (Kd.R_far (p := ⟨gb419, 2, none⟩) (Kd.R_far (p := ⟨gb419, 1, none⟩) (Kd.R_far (p := ⟨gb419, 0, none⟩) (Kd.R_mono HO_54.out (fun k_ hk => (⟨hk, hk.2⟩ : _ ∧ k_ ≠ gb419))) (fun _ hk => hk.2) (.int .i64 ((rd_T23 y415 x56_3).f0))) (fun _ hk => hk.2) (.int .i64 ((rd_T23 y415 x56_3).f1))) (fun _ hk => hk.2) (.int .i64 ((rd_T23 y415 x56_3).f2))) (fun _ h_ => h_.1))) hb); have n1_ := Aside0.mk (blk_below (g := gb396) (o := .cells #[.bool a0_0, .int .i64 a0_1, .int .i64 a0_2, .int .i64 a0_3, .int .i64 a0_4, .int .i64 a0_5, .int .i64 a0_6] 25 (0, 0)) (by (with_reducible repeat (first | refine blk_drewN ?_ _ | refine blk_drew ?_ | refine blk_alloc ?_ _)); refine blk_far ?_ NB396_419.out _; (with_reducible repeat (first | refine blk_drewN ?_ _ | refine blk_drew ?_ | refine blk_alloc ?_ _)); refine blk_far ?_ NB396_419.out _; (with_reducible repeat (first | refine blk_drewN ?_ _ | refine blk_drew ?_ | refine blk_alloc ?_ _)); refine blk_far ?_ NB396_419.out _; (with_reducible repeat (first | refine blk_drewN ?_ _ | refine blk_drew ?_ | refine blk_alloc ?_ _)); exact BK396.out) hb); have n2_ := Aside0.mk (blk_below (g := gb397) (o := .cells #[.int .i64 a1_0, .int .i64 a1_1, .int .i64 a1_2, .int .i64 a1_3, .int .i64 a1_4] 27 (0, 0)) (by (with_reducible repeat (first | refine blk_drewN ?_ _ | refine blk_drew ?_ | refine blk_alloc ?_ _)); refine blk_far ?_ NB397_419.out _; (with_reducible repeat (first | refine blk_drewN ?_ _ | refine blk_drew ?_ | refine blk_alloc ?_ _)); refine blk_far ?_ NB397_419.out _; (with_reducible repeat (first | refine blk_drewN ?_ _ | refine blk_drew ?_ | refine blk_alloc ?_ _)); refine blk_far ?_ NB397_419.out _; (with_reducible repeat (first | refine blk_drewN ?_ _ | refine blk_drew ?_ | refine blk_alloc ?_ _)); exact BK397.out) hb); have n3_ := Aside0.mk (blk_below (g := gb409) (o := .cells #[.bool t401, .int .i64 t402, .int .i64 t403, .int .i64 t404, .int .i64 t405, .int .i64 t406, .int .i64 t407] 25 (0, 0)) (by (with_reducible repeat (first | refine blk_drewN ?_ _ | refine blk_drew ?_ | refine blk_alloc ?_ _)); refine blk_far ?_ NB409_419.out _; (with_reducible repeat (first | refine blk_drewN ?_ _ | refine blk_drew ?_ | refine blk_alloc ?_ _)); refine blk_far ?_ NB409_419.out _; (with_reducible repeat (first | refine blk_drewN ?_ _ | refine blk_drew ?_ | refine blk_alloc ?_ _)); refine blk_far ?_ NB409_419.out _; (with_reducible repeat (first | refine blk_drewN ?_ _ | refine blk_drew ?_ | refine blk_alloc ?_ _)); exact BK409.out) hb); have n4_ := Aside0.mk (blk_below (g := gb414) (o := .cells #[.int .i64 t410, .int .i64 t411, .int .i64 t412] 23 (0, 0)) (by (with_reducible repeat (first | refine blk_drewN ?_ _ | refine blk_drew ?_ | refine blk_alloc ?_ _)); refine blk_far ?_ NB414_419.out _; (with_reducible repeat (first | refine blk_drewN ?_ _ | refine blk_drew ?_ | refine blk_alloc ?_ _)); refine blk_far ?_ NB414_419.out _; (with_reducible repeat (first | refine blk_drewN ?_ _ | refine blk_drew ?_ | refine blk_alloc ?_ _)); refine blk_far ?_ NB414_419.out _; (with_reducible repeat (first | refine blk_drewN ?_ _ | refine blk_drew ?_ | refine blk_alloc ?_ _)); exact BK414.out) hb); have n5_ := Aside0.mk (blk_below (g := gb419) (o := .cells #[.int .i64 ((rd_T23 y415 x56_3).f0), .int .i64 ((rd_T23 y415 x56_3).f1), .int .i64 ((rd_T23 y415 x56_3).f2)] 23 (0, 0)) (by (with_reducible repeat (first | refine blk_drewN ?_ _ | refine blk_drew ?_ | refine blk_alloc ?_ _)); refine blk_put (cs := #[.int .i64 ((rd_T23 y415 x56_3).f0), .int .i64 ((rd_T23 y415 x56_3).f1), .int .i64 0]) ?_ 2 _ rfl; (with_reducible repeat (first | refine blk_drewN ?_ _ | refine blk_drew ?_ | refine blk_alloc ?_ _)); refine blk_put (cs := #[.int .i64 ((rd_T23 y415 x56_3).f0), .int .i64 0, .int .i64 0]) ?_ 1 _ rfl; (with_reducible repeat (first | refine blk_drewN ?_ _ | refine blk_drew ?_ | refine blk_alloc ?_ _)); refine blk_put (cs := #[.int .i64 0, .int .i64 0, .int .i64 0]) ?_ 0 _ rfl; (with_reducible repeat (first | refine blk_drewN ?_ _ | refine blk_drew ?_ | refine blk_alloc ?_ _)); exact BK419.out) hb); have n6_ := Aside0.mk (below_step (by repeat (first | (with_reducible first | exact HB.out | apply below_alloc | apply pw_below_drewN | apply below_drew1 | refine below_set ?_ GE396.out | refine below_set ?_ GE397.out | refine below_set ?_ GE409.out | refine below_set ?_ GE414.out | refine below_set ?_ GE419.out) | exact HB.out)) hb); clear HO_54; clear BK396; clear BK397; clear BK409; clear BK414; clear BK419; clear HB; have HO_54 := n0_; have BK396 := n1_; have BK397 := n2_; have BK409 := n3_; have BK414 := n4_; have BK419 := n5_; have HB := n6_; clear n0_ n1_ n2_ n3_ n4_ n5_ n6_; (try clear hb); (try clear hb2); (try clear hk); (try clear hi)) | ((with_reducible refine gate_dst (N := 14) rfl ?_); (try (refine gate_guard (by rfl) ?_; dsimp only)); refine box_event ?hg (N := 14) ?hd (cs := #[.int .i64 0, .int .i64 0, .int .i64 0]) (t := 23) ?hr ?_; (case hd => rfl); (case hg => rfl); (case hr => first | (go_simp; done) | (go_simp; rfl)); intro gb424 hg w83 hbox hb; have n0_ := Aside0.mk (Kd.R_below (Kd.R_elderB (by (with_reducible repeat (first | apply Kd.R_alloc | apply Kd.R_drewN | apply Kd.R_drew)); exact HO_54.out) gb424 (Nat.le_of_eq hg.symm)) hb); have n1_ := Aside0.mk (blk_below (g := gb396) (o := .cells #[.bool a0_0, .int .i64 a0_1, .int .i64 a0_2, .int .i64 a0_3, .int .i64 a0_4, .int .i64 a0_5, .int .i64 a0_6] 25 (0, 0)) (by (with_reducible repeat (first | refine blk_drewN ?_ _ | refine blk_drew ?_ | refine blk_alloc ?_ _)); exact BK396.out) hb); have n2_ := Aside0.mk (blk_below (g := gb397) (o := .cells #[.int .i64 a1_0, .int .i64 a1_1, .int .i64 a1_2, .int .i64 a1_3, .int .i64 a1_4] 27 (0, 0)) (by (with_reducible repeat (first | refine blk_drewN ?_ _ | refine blk_drew ?_ | refine blk_alloc ?_ _)); exact BK397.out) hb); have n3_ := Aside0.mk (blk_below (g := gb409) (o := .cells #[.bool t401, .int .i64 t402, .int .i64 t403, .int .i64 t404, .int .i64 t405, .int .i64 t406, .int .i64 t407] 25 (0, 0)) (by (with_reducible repeat (first | refine blk_drewN ?_ _ | refine blk_drew ?_ | refine blk_alloc ?_ _)); exact BK409.out) hb); have n4_ := Aside0.mk (blk_below (g := gb414) (o := .cells #[.int .i64 t410, .int .i64 t411, .int .i64 t412] 23 (0, 0)) (by (with_reducible repeat (first | refine blk_drewN ?_ _ | refine blk_drew ?_ | refine blk_alloc ?_ _)); exact BK414.out) hb); have n5_ := Aside0.mk (blk_below (g := gb419) (o := .cells #[.int .i64 ((rd_T23 y415 x56_3).f0), .int .i64 ((rd_T23 y415 x56_3).f1), .int .i64 ((rd_T23 y415 x56_3).f2)] 23 (0, 0)) (by (with_reducible repeat (first | refine blk_drewN ?_ _ | refine blk_drew ?_ | refine blk_alloc ?_ _)); exact BK419.out) hb); have n6_ := Aside0.mk (below_step (by repeat (first | (with_reducible first | exact HB.out | apply below_alloc | apply pw_below_drewN | apply below_drew1 | refine below_set ?_ GE396.out | refine below_set ?_ GE397.out | refine below_set ?_ GE409.out | refine below_set ?_ GE414.out | refine below_set ?_ GE419.out) | exact HB.out)) hb); have n7_ := Aside0.mk (hbox); have n8_ := Aside0.mk ((by rw [hg]; exact (below_size (by repeat (first | (with_reducible first | exact HB.out | apply below_alloc | apply pw_below_drewN | apply below_drew1 | refine below_set ?_ GE396.out | refine below_set ?_ GE397.out | refine below_set ?_ GE409.out | refine below_set ?_ GE414.out | refine below_set ?_ GE419.out) | exact HB.out))) : w.heap.size ≤ gb424)); have n9_ := Aside0.mk ((by rw [hg]; exact (below_size (by repeat (first | (with_reducible first | exact HB.out | apply below_alloc | apply pw_below_drewN | apply below_drew1 | refine below_set ?_ GE396.out | refine below_set ?_ GE397.out | refine below_set ?_ GE409.out | refine below_set ?_ GE414.out | refine below_set ?_ GE419.out) | exact HB.out))) : w.heap.size ≤ gb424)); have n10_ := Aside0.mk ((by rw [hg]; exact Nat.ne_of_lt (blk_lt (g := gb396) (o := .cells #[.bool a0_0, .int .i64 a0_1, .int .i64 a0_2, .int .i64 a0_3, .int .i64 a0_4, .int .i64 a0_5, .int .i64 a0_6] 25 (0, 0)) (by (with_reducible repeat (first | refine blk_drewN ?_ _ | refine blk_drew ?_ | refine blk_alloc ?_ _)); exact BK396.out)) : gb396 ≠ gb424)); have n11_ := Aside0.mk ((by rw [hg]; exact Nat.ne_of_gt (blk_lt (g := gb396) (o := .cells #[.bool a0_0, .int .i64 a0_1, .int .i64 a0_2, .int .i64 a0_3, .int .i64 a0_4, .int .i64 a0_5, .int .i64 a0_6] 25 (0, 0)) (by (with_reducible repeat (first | refine blk_drewN ?_ _ | refine blk_drew ?_ | refine blk_alloc ?_ _)); exact BK396.out)) : gb424 ≠ gb396)); have n12_ := Aside0.mk ((by rw [hg]; exact Nat.ne_of_lt (blk_lt (g := gb397) (o := .cells #[.int .i64 a1_0, .int .i64 a1_1, .int .i64 a1_2, .int .i64 a1_3, .int .i64 a1_4] 27 (0, 0)) (by (with_reducible repeat (first | refine blk_drewN ?_ _ | refine blk_drew ?_ | refine blk_alloc ?_ _)); exact BK397.out)) : gb397 ≠ gb424)); have n13_ := Aside0.mk ((by rw [hg]; exact Nat.ne_of_gt (blk_lt (g := gb397) (o := .cells #[.int .i64 a1_0, .int .i64 a1_1, .int .i64 a1_2, .int .i64 a1_3, .int .i64 a1_4] 27 (0, 0)) (by (with_reducible repeat (first | refine blk_drewN ?_ _ | refine blk_drew ?_ | refine blk_alloc ?_ _)); exact BK397.out)) : gb424 ≠ gb397)); have n14_ := Aside0.mk ((by rw [hg]; exact Nat.ne_of_lt (blk_lt (g := gb409) (o := .cells #[.bool t401, .int .i64 t402, .int .i64 t403, .int .i64 t404, .int .i64 t405, .int .i64 t406, .int .i64 t407] 25 (0, 0)) (by (with_reducible repeat (first | refine blk_drewN ?_ _ | refine blk_drew ?_ | refine blk_alloc ?_ _)); exact BK409.out)) : gb409 ≠ gb424)); have n15_ := Aside0.mk ((by rw [hg]; exact Nat.ne_of_gt (blk_lt (g := gb409) (o := .cells #[.bool t401, .int .i64 t402, .int .i64 t403, .int .i64 t404, .int .i64 t405, .int .i64 t406, .int .i64 t407] 25 (0, 0)) (by (with_reducible repeat (first | refine blk_drewN ?_ _ | refine blk_drew ?_ | refine blk_alloc ?_ _)); exact BK409.out)) : gb424 ≠ gb409)); have n16_ := Aside0.mk ((by rw [hg]; exact Nat.ne_of_lt (blk_lt (g := gb414) (o := .cells #[.int .i64 t410, .int .i64 t411, .int .i64 t412] 23 (0, 0)) (by (with_reducible repeat (first | refine blk_drewN ?_ _ | refine blk_drew ?_ | refine blk_alloc ?_ _)); exact BK414.out)) : gb414 ≠ gb424)); have n17_ := Aside0.mk ((by rw [hg]; exact Nat.ne_of_gt (blk_lt (g := gb414) (o := .cells #[.int .i64 t410, .int .i64 t411, .int .i64 t412] 23 (0, 0)) (by (with_reducible repeat (first | refine blk_drewN ?_ _ | refine blk_drew ?_ | refine blk_alloc ?_ _)); exact BK414.out)) : gb424 ≠ gb414)); have n18_ := Aside0.mk ((by rw [hg]; exact Nat.ne_of_lt (blk_lt (g := gb419) (o := .cells #[.int .i64 ((rd_T23 y415 x56_3).f0), .int .i64 ((rd_T23 y415 x56_3).f1), .int .i64 ((rd_T23 y415 x56_3).f2)] 23 (0, 0)) (by (with_reducible repeat (first | refine blk_drewN ?_ _ | refine blk_drew ?_ | refine blk_alloc ?_ _)); exact BK419.out)) : gb419 ≠ gb424)); have n19_ := Aside0.mk ((by rw [hg]; exact Nat.ne_of_gt (blk_lt (g := gb419) (o := .cells #[.int .i64 ((rd_T23 y415 x56_3).f0), .int .i64 ((rd_T23 y415 x56_3).f1), .int .i64 ((rd_T23 y415 x56_3).f2)] 23 (0, 0)) (by (with_reducible repeat (first | refine blk_drewN ?_ _ | refine blk_drew ?_ | refine blk_alloc ?_ _)); exact BK419.out)) : gb424 ≠ gb419)); clear HO_54; clear BK396; clear BK397; clear BK409; clear BK414; clear BK419; clear HB; have HO_54 := n0_; have BK396 := n1_; have BK397 := n2_; have BK409 := n3_; have BK414 := n4_; have BK419 := n5_; have HB := n6_; have BK424 := n7_; have GW424 := n8_; have GE424 := n9_; have NB396_424 := n10_; have NB424_396 := n11_; have NB397_424 := n12_; have NB424_397 := n13_; have NB409_424 := n14_; have NB424_409 := n15_; have NB414_424 := n16_; have NB424_414 := n17_; have NB419_424 := n18_; have NB424_419 := n19_; clear n0_ n1_ n2_ n3_ n4_ n5_ n6_ n7_ n8_ n9_ n10_ n11_ n12_ n13_ n14_ n15_ n16_ n17_ n18_ n19_; clear hb hbox hg; have hnb84 := NB424_396.out; have hnc84 := NB396_424.out; have hnb85 := NB424_397.out; have hnc85 := NB397_424.out; have hnb86 := NB424_409.out; have hnc86 := NB409_424.out; have hnb87 := NB424_414.out; have hnc87 := NB414_424.out; have hnb88 := NB424_419.out; have hnc88 := NB419_424.out; have hcz89_0 : w83.cell? ⟨gb424, 0, none⟩ = some (.int .i64 0) := (blk_cell BK424.out 0).trans rfl; have hcz89_1 : w83.cell? ⟨gb424, 1, none⟩ = some (.int .i64 0) := (blk_cell BK424.out 1).trans rfl; have hcz89_2 : w83.cell? ⟨gb424, 2, none⟩ = some (.int .i64 0) := (blk_cell BK424.out 2).trans rfl; have hfz89_0 := blk_frozen BK424.out 0; have hfz89_1 := blk_frozen BK424.out 1; have hfz89_2 := blk_frozen BK424.out 2; have hcz90_0 : w83.cell? ⟨gb419, 0, none⟩ = some (.int .i64 ((rd_T23 y415 x56_3).f0)) := (blk_cell BK419.out 0).trans rfl; have hcz90_1 : w83.cell? ⟨gb419, 1, none⟩ = some (.int .i64 ((rd_T23 y415 x56_3).f1)) := (blk_cell BK419.out 1).trans rfl; have hcz90_2 : w83.cell? ⟨gb419, 2, none⟩ = some (.int .i64 ((rd_T23 y415 x56_3).f2)) := (blk_cell BK419.out 2).trans rfl; have hfz90_0 := blk_frozen BK419.out 0; have hfz90_1 := blk_frozen BK419.out 1; have hfz90_2 := blk_frozen BK419.out 2; have hcz91_0 : w83.cell? ⟨gb409, 0, none⟩ = some (.bool t401) := (blk_cell BK409.out 0).trans rfl; have hcz91_1 : w83.cell? ⟨gb409, 1, none⟩ = some (.int .i64 t402) := (blk_cell BK409.out 1).trans rfl; have hcz91_2 : w83.cell? ⟨gb409, 2, none⟩ = some (.int .i64 t403) := (blk_cell BK409.out 2).trans rfl; have hcz91_3 : w83.cell? ⟨gb409, 3, none⟩ = some (.int .i64 t404) := (blk_cell BK409.out 3).trans rfl; have hcz91_4 : w83.cell? ⟨gb409, 4, none⟩ = some (.int .i64 t405) := (blk_cell BK409.out 4).trans rfl; have hcz91_5 : w83.cell? ⟨gb409, 5, none⟩ = some (.int .i64 t406) := (blk_cell BK409.out 5).trans rfl; have hcz91_6 : w83.cell? ⟨gb409, 6, none⟩ = some (.int .i64 t407) := (blk_cell BK409.out 6).trans rfl; have hfz91_0 := blk_frozen BK409.out 0; have hfz91_1 := blk_frozen BK409.out 1; have hfz91_2 := blk_frozen BK409.out 2; have hfz91_3 := blk_frozen BK409.out 3; have hfz91_4 := blk_frozen BK409.out 4; have hfz91_5 := blk_frozen BK409.out 5; have hfz91_6 := blk_frozen BK409.out 6))
                                    go_roundg k3
                                    case measure => have := HJ3.out; have := HJ25.out; have := HK3.out; omega
                                    case rel => exact ⟨(wrap64 (x56_3 + 1)), (by first | rfl | (simp; done) | (simp [*]; done)), H', ⟨by have := HJ3.out; have := HJ25.out; have := HK3.out; omega⟩, ⟨by (with_reducible repeat (first | apply Kd.R_alloc | apply Kd.R_drewN | apply Kd.R_drew)); exact Kd.R_mono (Kd.R_far (p := ⟨gb419, 2, none⟩) (Kd.R_far (p := ⟨gb419, 1, none⟩) (Kd.R_far (p := ⟨gb419, 0, none⟩) (Kd.R_far (p := ⟨gb424, 2, none⟩) (Kd.R_far (p := ⟨gb424, 1, none⟩) (Kd.R_far (p := ⟨gb424, 0, none⟩) (Kd.R_mono (Kd.R_mono HO_54.out (fun k_ hk => (⟨hk, hk.2⟩ : _ ∧ k_ ≠ gb424))) (fun k_ hk => (⟨hk, hk.1.1.2⟩ : _ ∧ k_ ≠ gb419))) (fun _ hk => hk.1.2) (.int .i64 t420)) (fun _ hk => hk.1.2) (.int .i64 t421)) (fun _ hk => hk.1.2) (.int .i64 t422)) (fun _ hk => hk.2) (.int .i64 t420)) (fun _ hk => hk.2) (.int .i64 t421)) (fun _ hk => hk.2) (.int .i64 t422)) (fun _ hk => hk.1.1.1.1)⟩, ⟨by (with_reducible repeat (first | refine blk_drewN ?_ _ | refine blk_drew ?_ | refine blk_alloc ?_ _)); refine blk_far ?_ NB396_419.out _; (with_reducible repeat (first | refine blk_drewN ?_ _ | refine blk_drew ?_ | refine blk_alloc ?_ _)); refine blk_far ?_ NB396_419.out _; (with_reducible repeat (first | refine blk_drewN ?_ _ | refine blk_drew ?_ | refine blk_alloc ?_ _)); refine blk_far ?_ NB396_419.out _; (with_reducible repeat (first | refine blk_drewN ?_ _ | refine blk_drew ?_ | refine blk_alloc ?_ _)); refine blk_far ?_ NB396_424.out _; (with_reducible repeat (first | refine blk_drewN ?_ _ | refine blk_drew ?_ | refine blk_alloc ?_ _)); refine blk_far ?_ NB396_424.out _; (with_reducible repeat (first | refine blk_drewN ?_ _ | refine blk_drew ?_ | refine blk_alloc ?_ _)); refine blk_far ?_ NB396_424.out _; (with_reducible repeat (first | refine blk_drewN ?_ _ | refine blk_drew ?_ | refine blk_alloc ?_ _)); exact BK396.out⟩, ⟨by (with_reducible repeat (first | refine blk_drewN ?_ _ | refine blk_drew ?_ | refine blk_alloc ?_ _)); refine blk_far ?_ NB397_419.out _; (with_reducible repeat (first | refine blk_drewN ?_ _ | refine blk_drew ?_ | refine blk_alloc ?_ _)); refine blk_far ?_ NB397_419.out _; (with_reducible repeat (first | refine blk_drewN ?_ _ | refine blk_drew ?_ | refine blk_alloc ?_ _)); refine blk_far ?_ NB397_419.out _; (with_reducible repeat (first | refine blk_drewN ?_ _ | refine blk_drew ?_ | refine blk_alloc ?_ _)); refine blk_far ?_ NB397_424.out _; (with_reducible repeat (first | refine blk_drewN ?_ _ | refine blk_drew ?_ | refine blk_alloc ?_ _)); refine blk_far ?_ NB397_424.out _; (with_reducible repeat (first | refine blk_drewN ?_ _ | refine blk_drew ?_ | refine blk_alloc ?_ _)); refine blk_far ?_ NB397_424.out _; (with_reducible repeat (first | refine blk_drewN ?_ _ | refine blk_drew ?_ | refine blk_alloc ?_ _)); exact BK397.out⟩, ⟨by (with_reducible repeat (first | refine blk_drewN ?_ _ | refine blk_drew ?_ | refine blk_alloc ?_ _)); refine blk_far ?_ NB409_419.out _; (with_reducible repeat (first | refine blk_drewN ?_ _ | refine blk_drew ?_ | refine blk_alloc ?_ _)); refine blk_far ?_ NB409_419.out _; (with_reducible repeat (first | refine blk_drewN ?_ _ | refine blk_drew ?_ | refine blk_alloc ?_ _)); refine blk_far ?_ NB409_419.out _; (with_reducible repeat (first | refine blk_drewN ?_ _ | refine blk_drew ?_ | refine blk_alloc ?_ _)); refine blk_far ?_ NB409_424.out _; (with_reducible repeat (first | refine blk_drewN ?_ _ | refine blk_drew ?_ | refine blk_alloc ?_ _)); refine blk_far ?_ NB409_424.out _; (with_reducible repeat (first | refine blk_drewN ?_ _ | refine blk_drew ?_ | refine blk_alloc ?_ _)); refine blk_far ?_ NB409_424.out _; (with_reducible repeat (first | refine blk_drewN ?_ _ | refine blk_drew ?_ | refine blk_alloc ?_ _)); exact BK409.out⟩, ⟨by (with_reducible repeat (first | refine blk_drewN ?_ _ | refine blk_drew ?_ | refine blk_alloc ?_ _)); refine blk_far ?_ NB414_419.out _; (with_reducible repeat (first | refine blk_drewN ?_ _ | refine blk_drew ?_ | refine blk_alloc ?_ _)); refine blk_far ?_ NB414_419.out _; (with_reducible repeat (first | refine blk_drewN ?_ _ | refine blk_drew ?_ | refine blk_alloc ?_ _)); refine blk_far ?_ NB414_419.out _; (with_reducible repeat (first | refine blk_drewN ?_ _ | refine blk_drew ?_ | refine blk_alloc ?_ _)); refine blk_far ?_ NB414_424.out _; (with_reducible repeat (first | refine blk_drewN ?_ _ | refine blk_drew ?_ | refine blk_alloc ?_ _)); refine blk_far ?_ NB414_424.out _; (with_reducible repeat (first | refine blk_drewN ?_ _ | refine blk_drew ?_ | refine blk_alloc ?_ _)); refine blk_far ?_ NB414_424.out _; (with_reducible repeat (first | refine blk_drewN ?_ _ | refine blk_drew ?_ | refine blk_alloc ?_ _)); exact BK414.out⟩, ⟨by repeat (first | (with_reducible first | exact HB.out | apply below_alloc | apply pw_below_drewN | apply below_drew1 | refine below_set ?_ GE396.out | refine below_set ?_ GE397.out | refine below_set ?_ GE409.out | refine below_set ?_ GE414.out | refine below_set ?_ GE419.out | refine below_set ?_ GE424.out) | exact HB.out)⟩⟩
                              · rw [if_neg c64] at H
                                exact absurd H (by simp)
                            · rw [if_neg c62] at H
                              have c62b0 : (a0_3 == t412) = false := beq_eq_false_iff_ne.mpr c62
                              have c62b1 : (a0_3 != t412) = true := bne_iff_ne.mpr c62
                              by_cases c92 : t402 < ((rd_T23 y415 x56_3).f0)
                              · rw [if_pos c92] at H
                                exact absurd H (by simp)
                              · rw [if_neg c92] at H
                                have c92b0 : decide (t402 < ((rd_T23 y415 x56_3).f0)) = false := decide_eq_false c92
                                clear c92
                                by_cases c93 : t403 > ((rd_T23 y415 x56_3).f1)
                                · rw [if_pos c93] at H
                                  exact absurd H (by simp)
                                · rw [if_neg c93] at H
                                  have c93b0 : decide (((rd_T23 y415 x56_3).f1) < t403) = false := decide_eq_false c93
                                  clear c93
                                  have H' := Aside0.mk H
                                  clear H
                                  have p418 : 0 ≤ (x56_3 : Int) := of_decide_eq_true (by first | (with_reducible assumption) | assumption)
                                  have q418 : x56_3 < (y415.length : Int) := of_decide_eq_true (by first | (with_reducible assumption) | assumption)
                                  obtain ⟨ad418, e418, hx418_0, hx418_1, hx418_2⟩ := at_T23 (Kd.R_reads' HO_54.out).2.2 x56_3 p418 q418
                                  cases e418
                                  replace p418 := eq_true p418
                                  replace q418 := eq_true q418
                                  go_wp2_with (first | ((with_reducible refine gate_dst (N := 11) rfl ?_); (try (refine gate_guard (by rfl) ?_; dsimp only)); refine box_event ?hg (N := 11) ?hd (cs := #[.int .i64 0, .int .i64 0, .int .i64 0]) (t := 23) ?hr ?_; (case hd => rfl); (case hg => rfl); (case hr => first | (go_simp; done) | (go_simp; rfl)); intro gb419 hg w94 hbox hb; have n0_ := Aside0.mk (Kd.R_below (Kd.R_elderB (by (with_reducible repeat (first | apply Kd.R_alloc | apply Kd.R_drewN | apply Kd.R_drew)); exact HO_54.out) gb419 (Nat.le_of_eq hg.symm)) hb); have n1_ := Aside0.mk (blk_below (g := gb396) (o := .cells #[.bool a0_0, .int .i64 a0_1, .int .i64 a0_2, .int .i64 a0_3, .int .i64 a0_4, .int .i64 a0_5, .int .i64 a0_6] 25 (0, 0)) (by (with_reducible repeat (first | refine blk_drewN ?_ _ | refine blk_drew ?_ | refine blk_alloc ?_ _)); exact BK396.out) hb); have n2_ := Aside0.mk (blk_below (g := gb397) (o := .cells #[.int .i64 a1_0, .int .i64 a1_1, .int .i64 a1_2, .int .i64 a1_3, .int .i64 a1_4] 27 (0, 0)) (by (with_reducible repeat (first | refine blk_drewN ?_ _ | refine blk_drew ?_ | refine blk_alloc ?_ _)); exact BK397.out) hb); have n3_ := Aside0.mk (blk_below (g := gb409) (o := .cells #[.bool t401, .int .i64 t402, .int .i64 t403, .int .i64 t404, .int .i64 t405, .int .i64 t406, .int .i64 t407] 25 (0, 0)) (by (with_reducible repeat (first | refine blk_drewN ?_ _ | refine blk_drew ?_ | refine blk_alloc ?_ _)); exact BK409.out) hb); have n4_ := Aside0.mk (blk_below (g := gb414) (o := .cells #[.int .i64 t410, .int .i64 t411, .int .i64 t412] 23 (0, 0)) (by (with_reducible repeat (first | refine blk_drewN ?_ _ | refine blk_drew ?_ | refine blk_alloc ?_ _)); exact BK414.out) hb); have n5_ := Aside0.mk (below_step (by repeat (first | (with_reducible first | exact HB.out | apply below_alloc | apply pw_below_drewN | apply below_drew1 | refine below_set ?_ GE396.out | refine below_set ?_ GE397.out | refine below_set ?_ GE409.out | refine below_set ?_ GE414.out) | exact HB.out)) hb); have n6_ := Aside0.mk (hbox); have n7_ := Aside0.mk ((by rw [hg]; exact (below_size (by repeat (first | (with_reducible first | exact HB.out | apply below_alloc | apply pw_below_drewN | apply below_drew1 | refine below_set ?_ GE396.out | refine below_set ?_ GE397.out | refine below_set ?_ GE409.out | refine below_set ?_ GE414.out) | exact HB.out))) : w.heap.size ≤ gb419)); have n8_ := Aside0.mk ((by rw [hg]; exact (below_size (by repeat (first | (with_reducible first | exact HB.out | apply below_alloc | apply pw_below_drewN | apply below_drew1 | refine below_set ?_ GE396.out | refine below_set ?_ GE397.out | refine below_set ?_ GE409.out | refine below_set ?_ GE414.out) | exact HB.out))) : w.heap.size ≤ gb419)); have n9_ := Aside0.mk ((by rw [hg]; exact Nat.ne_of_lt (blk_lt (g := gb396) (o := .cells #[.bool a0_0, .int .i64 a0_1, .int .i64 a0_2, .int .i64 a0_3, .int .i64 a0_4, .int .i64 a0_5, .int .i64 a0_6] 25 (0, 0)) (by (with_reducible repeat (first | refine blk_drewN ?_ _ | refine blk_drew ?_ | refine blk_alloc ?_ _)); exact BK396.out)) : gb396 ≠ gb419)); have n10_ := Aside0.mk ((by rw [hg]; exact Nat.ne_of_gt (blk_lt (g := gb396) (o := .cells #[.bool a0_0, .int .i64 a0_1, .int .i64 a0_2, .int .i64 a0_3, .int .i64 a0_4, .int .i64 a0_5, .int .i64 a0_6] 25 (0, 0)) (by (with_reducible repeat (first | refine blk_drewN ?_ _ | refine blk_drew ?_ | refine blk_alloc ?_ _)); exact BK396.out)) : gb419 ≠ gb396)); have n11_ := Aside0.mk ((by rw [hg]; exact Nat.ne_of_lt (blk_lt (g := gb397) (o := .cells #[.int .i64 a1_0, .int .i64 a1_1, .int .i64 a1_2, .int .i64 a1_3, .int .i64 a1_4] 27 (0, 0)) (by (with_reducible repeat (first | refine blk_drewN ?_ _ | refine blk_drew ?_ | refine blk_alloc ?_ _)); exact BK397.out)) : gb397 ≠ gb419)); have n12_ := Aside0.mk ((by rw [hg]; exact Nat.ne_of_gt (blk_lt (g := gb397) (o := .cells #[.int .i64 a1_0, .int .i64 a1_1, .int .i64 a1_2, .int .i64 a1_3, .int .i64 a1_4] 27 (0, 0)) (by (with_reducible repeat (first | refine blk_drewN ?_ _ | refine blk_drew ?_ | refine blk_alloc ?_ _)); exact BK397.out)) : gb419 ≠ gb397)); have n13_ := Aside0.mk ((by rw [hg]; exact Nat.ne_of_lt (blk_lt (g := gb409) (o := .cells #[.bool t401, .int .i64 t402, .int .i64 t403, .int .i64 t404, .int .i64 t405, .int .i64 t406, .int .i64 t407] 25 (0, 0)) (by (with_reducible repeat (first | refine blk_drewN ?_ _ | refine blk_drew ?_ | refine blk_alloc ?_ _)); exact BK409.out)) : gb409 ≠ gb419)); have n14_ := Aside0.mk ((by rw [hg]; exact Nat.ne_of_gt (blk_lt (g := gb409) (o := .cells #[.bool t401, .int .i64 t402, .int .i64 t403, .int .i64 t404, .int .i64 t405, .int .i64 t406, .int .i64 t407] 25 (0, 0)) (by (with_reducible repeat (first | refine blk_drewN ?_ _ | refine blk_drew ?_ | refine blk_alloc ?_ _)); exact BK409.out)) : gb419 ≠ gb409)); have n15_ := Aside0.mk ((by rw [hg]; exact Nat.ne_of_lt (blk_lt (g := gb414) (o := .cells #[.int .i64 t410, .int .i64 t411, .int .i64 t412] 23 (0, 0)) (by (with_reducible repeat (first | refine blk_drewN ?_ _ | refine blk_drew ?_ | refine blk_alloc ?_ _)); exact BK414.out)) : gb414 ≠ gb419)); have n16_ := Aside0.mk ((by rw [hg]; exact Nat.ne_of_gt (blk_lt (g := gb414) (o := .cells #[.int .i64 t410, .int .i64 t411, .int .i64 t412] 23 (0, 0)) (by (with_reducible repeat (first | refine blk_drewN ?_ _ | refine blk_drew ?_ | refine blk_alloc ?_ _)); exact BK414.out)) : gb419 ≠ gb414)); clear HO_54; clear BK396; clear BK397; clear BK409; clear BK414; clear HB; have HO_54 := n0_; have BK396 := n1_; have BK397 := n2_; have BK409 := n3_; have BK414 := n4_; have HB := n5_; have BK419 := n6_; have GW419 := n7_; have GE419 := n8_; have NB396_419 := n9_; have NB419_396 := n10_; have NB397_419 := n11_; have NB419_397 := n12_; have NB409_419 := n13_; have NB419_409 := n14_; have NB414_419 := n15_; have NB419_414 := n16_; clear n0_ n1_ n2_ n3_ n4_ n5_ n6_ n7_ n8_ n9_ n10_ n11_ n12_ n13_ n14_ n15_ n16_; clear hb hbox hg; have hnb95 := NB419_396.out; have hnc95 := NB396_419.out; have hnb96 := NB419_397.out; have hnc96 := NB397_419.out; have hnb97 := NB419_409.out; have hnc97 := NB409_419.out; have hnb98 := NB419_414.out; have hnc98 := NB414_419.out; have hcz99_0 : w94.cell? ⟨gb419, 0, none⟩ = some (.int .i64 0) := (blk_cell BK419.out 0).trans rfl; have hcz99_1 : w94.cell? ⟨gb419, 1, none⟩ = some (.int .i64 0) := (blk_cell BK419.out 1).trans rfl; have hcz99_2 : w94.cell? ⟨gb419, 2, none⟩ = some (.int .i64 0) := (blk_cell BK419.out 2).trans rfl; have hfz99_0 := blk_frozen BK419.out 0; have hfz99_1 := blk_frozen BK419.out 1; have hfz99_2 := blk_frozen BK419.out 2; have hnb100 := NB409_396.out; have hnc100 := NB396_409.out; have hnb101 := NB409_397.out; have hnc101 := NB397_409.out; have hnb102 := NB409_414.out; have hnc102 := NB414_409.out; have hcz103_0 : w94.cell? ⟨gb409, 0, none⟩ = some (.bool t401) := (blk_cell BK409.out 0).trans rfl; have hcz103_1 : w94.cell? ⟨gb409, 1, none⟩ = some (.int .i64 t402) := (blk_cell BK409.out 1).trans rfl; have hcz103_2 : w94.cell? ⟨gb409, 2, none⟩ = some (.int .i64 t403) := (blk_cell BK409.out 2).trans rfl; have hcz103_3 : w94.cell? ⟨gb409, 3, none⟩ = some (.int .i64 t404) := (blk_cell BK409.out 3).trans rfl; have hcz103_4 : w94.cell? ⟨gb409, 4, none⟩ = some (.int .i64 t405) := (blk_cell BK409.out 4).trans rfl; have hcz103_5 : w94.cell? ⟨gb409, 5, none⟩ = some (.int .i64 t406) := (blk_cell BK409.out 5).trans rfl; have hcz103_6 : w94.cell? ⟨gb409, 6, none⟩ = some (.int .i64 t407) := (blk_cell BK409.out 6).trans rfl; have hfz103_0 := blk_frozen BK409.out 0; have hfz103_1 := blk_frozen BK409.out 1; have hfz103_2 := blk_frozen BK409.out 2; have hfz103_3 := blk_frozen BK409.out 3; have hfz103_4 := blk_frozen BK409.out 4; have hfz103_5 := blk_frozen BK409.out 5; have hfz103_6 := blk_frozen BK409.out 6; have hnb104 := NB396_397.out; have hnc104 := NB397_396.out; have hnb105 := NB396_414.out; have hnc105 := NB414_396.out; have hcz106_0 : w94.cell? ⟨gb396, 0, none⟩ = some (.bool a0_0) := (blk_cell BK396.out 0).trans rfl; have hcz106_1 : w94.cell? ⟨gb396, 1, none⟩ = some (.int .i64 a0_1) := (blk_cell BK396.out 1).trans rfl; have hcz106_2 : w94.cell? ⟨gb396, 2, none⟩ = some (.int .i64 a0_2) := (blk_cell BK396.out 2).trans rfl; have hcz106_3 : w94.cell? ⟨gb396, 3, none⟩ = some (.int .i64 a0_3) := (blk_cell BK396.out 3).trans rfl; have hcz106_4 : w94.cell? ⟨gb396, 4, none⟩ = some (.int .i64 a0_4) := (blk_cell BK396.out 4).trans rfl; have hcz106_5 : w94.cell? ⟨gb396, 5, none⟩ = some (.int .i64 a0_5) := (blk_cell BK396.out 5).trans rfl; have hcz106_6 : w94.cell? ⟨gb396, 6, none⟩ = some (.int .i64 a0_6) := (blk_cell BK396.out 6).trans rfl; have hfz106_0 := blk_frozen BK396.out 0; have hfz106_1 := blk_frozen BK396.out 1; have hfz106_2 := blk_frozen BK396.out 2; have hfz106_3 := blk_frozen BK396.out 3; have hfz106_4 := blk_frozen BK396.out 4; have hfz106_5 := blk_frozen BK396.out 5; have hfz106_6 := blk_frozen BK396.out 6; have hnb107 := NB414_397.out; have hnc107 := NB397_414.out; have hcz108_0 : w94.cell? ⟨gb414, 0, none⟩ = some (.int .i64 t410) := (blk_cell BK414.out 0).trans rfl; have hcz108_1 : w94.cell? ⟨gb414, 1, none⟩ = some (.int .i64 t411) := (blk_cell BK414.out 1).trans rfl; have hcz108_2 : w94.cell? ⟨gb414, 2, none⟩ = some (.int .i64 t412) := (blk_cell BK414.out 2).trans rfl; have hfz108_0 := blk_frozen BK414.out 0; have hfz108_1 := blk_frozen BK414.out 1; have hfz108_2 := blk_frozen BK414.out 2))
                                  go_roundg k3
                                  case measure => have := HJ3.out; have := HJ25.out; have := HK3.out; omega
                                  case rel => exact ⟨(wrap64 (x56_3 + 1)), (by first | rfl | (simp; done) | (simp [*]; done)), H', ⟨by have := HJ3.out; have := HJ25.out; have := HK3.out; omega⟩, ⟨by (with_reducible repeat (first | apply Kd.R_alloc | apply Kd.R_drewN | apply Kd.R_drew)); exact Kd.R_mono (Kd.R_far (p := ⟨gb419, 2, none⟩) (Kd.R_far (p := ⟨gb419, 1, none⟩) (Kd.R_far (p := ⟨gb419, 0, none⟩) (Kd.R_mono HO_54.out (fun k_ hk => (⟨hk, hk.2⟩ : _ ∧ k_ ≠ gb419))) (fun _ hk => hk.2) (.int .i64 ((rd_T23 y415 x56_3).f0))) (fun _ hk => hk.2) (.int .i64 ((rd_T23 y415 x56_3).f1))) (fun _ hk => hk.2) (.int .i64 ((rd_T23 y415 x56_3).f2))) (fun _ hk => hk.1.1)⟩, ⟨by (with_reducible repeat (first | refine blk_drewN ?_ _ | refine blk_drew ?_ | refine blk_alloc ?_ _)); refine blk_far ?_ NB396_419.out _; (with_reducible repeat (first | refine blk_drewN ?_ _ | refine blk_drew ?_ | refine blk_alloc ?_ _)); refine blk_far ?_ NB396_419.out _; (with_reducible repeat (first | refine blk_drewN ?_ _ | refine blk_drew ?_ | refine blk_alloc ?_ _)); refine blk_far ?_ NB396_419.out _; (with_reducible repeat (first | refine blk_drewN ?_ _ | refine blk_drew ?_ | refine blk_alloc ?_ _)); exact BK396.out⟩, ⟨by (with_reducible repeat (first | refine blk_drewN ?_ _ | refine blk_drew ?_ | refine blk_alloc ?_ _)); refine blk_far ?_ NB397_419.out _; (with_reducible repeat (first | refine blk_drewN ?_ _ | refine blk_drew ?_ | refine blk_alloc ?_ _)); refine blk_far ?_ NB397_419.out _; (with_reducible repeat (first | refine blk_drewN ?_ _ | refine blk_drew ?_ | refine blk_alloc ?_ _)); refine blk_far ?_ NB397_419.out _; (with_reducible repeat (first | refine blk_drewN ?_ _ | refine blk_drew ?_ | refine blk_alloc ?_ _)); exact BK397.out⟩, ⟨by (with_reducible repeat (first | refine blk_drewN ?_ _ | refine blk_drew ?_ | refine blk_alloc ?_ _)); refine blk_far ?_ NB409_419.out _; (with_reducible repeat (first | refine blk_drewN ?_ _ | refine blk_drew ?_ | refine blk_alloc ?_ _)); refine blk_far ?_ NB409_419.out _; (with_reducible repeat (first | refine blk_drewN ?_ _ | refine blk_drew ?_ | refine blk_alloc ?_ _)); refine blk_far ?_ NB409_419.out _; (with_reducible repeat (first | refine blk_drewN ?_ _ | refine blk_drew ?_ | refine blk_alloc ?_ _)); exact BK409.out⟩, ⟨by (with_reducible repeat (first | refine blk_drewN ?_ _ | refine blk_drew ?_ | refine blk_alloc ?_ _)); refine blk_far ?_ NB414_419.out _; (with_reducible repeat (first | refine blk_drewN ?_ _ | refine blk_drew ?_ | refine blk_alloc ?_ _)); refine blk_far ?_ NB414_419.out _; (with_reducible repeat (first | refine blk_drewN ?_ _ | refine blk_drew ?_ | refine blk_alloc ?_ _)); refine blk_far ?_ NB414_419.out _; (with_reducible repeat (first | refine blk_drewN ?_ _ | refine blk_drew ?_ | refine blk_alloc ?_ _)); exact BK414.out⟩, ⟨by repeat (first | (with_reducible first | exact HB.out | apply below_alloc | apply pw_below_drewN | apply below_drew1 | refine below_set ?_ GE396.out | refine below_set ?_ GE397.out | refine below_set ?_ GE409.out | refine below_set ?_ GE414.out | refine below_set ?_ GE419.out) | exact HB.out)⟩⟩
                          · rw [if_neg c61] at H
                            have c61b0 : (((rd_T23 y415 x56_3).f2) == t404) = false := beq_eq_false_iff_ne.mpr c61
                            have c61b1 : (((rd_T23 y415 x56_3).f2) != t404) = true := bne_iff_ne.mpr c61
                            replace H := Option.bind_eq_some_iff.mp H
                            obtain ⟨⟨t425, t426, t427, t428⟩, A1090, H⟩ := H
                            replace H : (if t428 = 0 then (if t402 < t425 then (none) else (if t403 > t426 then (none) else (slotmeshlaw09_TimesyncBetter.l0 k3 t398 y415 (y415.length : Int) (wrap64 (x56_3 + 1)) a0_0 a0_1 a0_2 a0_3 a0_4 a0_5 a0_6 t401 t402 t403 t404 t405 t406 t407 t410 t411 t412))) else (none)) = some r := H
                            have A109 := Aside0.mk A1090
                            clear A1090
                            by_cases c110 : t428 = 0
                            · rw [if_pos c110] at H
                              have c110b0 : (t428 == 0) = true := beq_iff_eq.mpr c110
                              have c110b1 : (t428 != 0) = false := bne_eq_false_iff_eq.mpr c110
                              clear c110
                              by_cases c111 : t402 < t425
                              · rw [if_pos c111] at H
                                exact absurd H (by simp)
                              · rw [if_neg c111] at H
                                have c111b0 : decide (t402 < t425) = false := decide_eq_false c111
                                clear c111
                                by_cases c112 : t403 > t426
                                · rw [if_pos c112] at H
                                  exact absurd H (by simp)
                                · rw [if_neg c112] at H
                                  have c112b0 : decide (t426 < t403) = false := decide_eq_false c112
                                  clear c112
                                  have H' := Aside0.mk H
                                  clear H
                                  have p418 : 0 ≤ (x56_3 : Int) := of_decide_eq_true (by first | (with_reducible assumption) | assumption)
                                  have q418 : x56_3 < (y415.length : Int) := of_decide_eq_true (by first | (with_reducible assumption) | assumption)
                                  obtain ⟨ad418, e418, hx418_0, hx418_1, hx418_2⟩ := at_T23 (Kd.R_reads' HO_54.out).2.2 x56_3 p418 q418
                                  cases e418
                                  replace p418 := eq_true p418
                                  replace q418 := eq_true q418
                                  go_wp2_with (first | ((with_reducible refine gate_dst (N := 11) rfl ?_); (try (refine gate_guard (by rfl) ?_; dsimp only)); refine box_event ?hg (N := 11) ?hd (cs := #[.int .i64 0, .int .i64 0, .int .i64 0]) (t := 23) ?hr ?_; (case hd => rfl); (case hg => rfl); (case hr => first | (go_simp; done) | (go_simp; rfl)); intro gb419 hg w113 hbox hb; have n0_ := Aside0.mk (Kd.R_below (Kd.R_elderB (by (with_reducible repeat (first | apply Kd.R_alloc | apply Kd.R_drewN | apply Kd.R_drew)); exact HO_54.out) gb419 (Nat.le_of_eq hg.symm)) hb); have n1_ := Aside0.mk (blk_below (g := gb396) (o := .cells #[.bool a0_0, .int .i64 a0_1, .int .i64 a0_2, .int .i64 a0_3, .int .i64 a0_4, .int .i64 a0_5, .int .i64 a0_6] 25 (0, 0)) (by (with_reducible repeat (first | refine blk_drewN ?_ _ | refine blk_drew ?_ | refine blk_alloc ?_ _)); exact BK396.out) hb); have n2_ := Aside0.mk (blk_below (g := gb397) (o := .cells #[.int .i64 a1_0, .int .i64 a1_1, .int .i64 a1_2, .int .i64 a1_3, .int .i64 a1_4] 27 (0, 0)) (by (with_reducible repeat (first | refine blk_drewN ?_ _ | refine blk_drew ?_ | refine blk_alloc ?_ _)); exact BK397.out) hb); have n3_ := Aside0.mk (blk_below (g := gb409) (o := .cells #[.bool t401, .int .i64 t402, .int .i64 t403, .int .i64 t404, .int .i64 t405, .int .i64 t406, .int .i64 t407] 25 (0, 0)) (by (with_reducible repeat (first | refine blk_drewN ?_ _ | refine blk_drew ?_ | refine blk_alloc ?_ _)); exact BK409.out) hb); have n4_ := Aside0.mk (blk_below (g := gb414) (o := .cells #[.int .i64 t410, .int .i64 t411, .int .i64 t412] 23 (0, 0)) (by (with_reducible repeat (first | refine blk_drewN ?_ _ | refine blk_drew ?_ | refine blk_alloc ?_ _)); exact BK414.out) hb); have n5_ := Aside0.mk (below_step (by repeat (first | (with_reducible first | exact HB.out | apply below_alloc | apply pw_below_drewN | apply below_drew1 | refine below_set ?_ GE396.out | refine below_set ?_ GE397.out | refine below_set ?_ GE409.out | refine below_set ?_ GE414.out) | exact HB.out)) hb); have n6_ := Aside0.mk (hbox); have n7_ := Aside0.mk ((by rw [hg]; exact (below_size (by repeat (first | (with_reducible first | exact HB.out | apply below_alloc | apply pw_below_drewN | apply below_drew1 | refine below_set ?_ GE396.out | refine below_set ?_ GE397.out | refine below_set ?_ GE409.out | refine below_set ?_ GE414.out) | exact HB.out))) : w.heap.size ≤ gb419)); have n8_ := Aside0.mk ((by rw [hg]; exact (below_size (by repeat (first | (with_reducible first | exact HB.out | apply below_alloc | apply pw_below_drewN | apply below_drew1 | refine below_set ?_ GE396.out | refine below_set ?_ GE397.out | refine below_set ?_ GE409.out | refine below_set ?_ GE414.out) | exact HB.out))) : w.heap.size ≤ gb419)); have n9_ := Aside0.mk ((by rw [hg]; exact Nat.ne_of_lt (blk_lt (g := gb396) (o := .cells #[.bool a0_0, .int .i64 a0_1, .int .i64 a0_2, .int .i64 a0_3, .int .i64 a0_4, .int .i64 a0_5, .int .i64 a0_6] 25 (0, 0)) (by (with_reducible repeat (first | refine blk_drewN ?_ _ | refine blk_drew ?_ | refine blk_alloc ?_ _)); exact BK396.out)) : gb396 ≠ gb419)); have n10_ := Aside0.mk ((by rw [hg]; exact Nat.ne_of_gt (blk_lt (g := gb396) (o := .cells #[.bool a0_0, .int .i64 a0_1, .int .i64 a0_2, .int .i64 a0_3, .int .i64 a0_4, .int .i64 a0_5, .int .i64 a0_6] 25 (0, 0)) (by (with_reducible repeat (first | refine blk_drewN ?_ _ | refine blk_drew ?_ | refine blk_alloc ?_ _)); exact BK396.out)) : gb419 ≠ gb396)); have n11_ := Aside0.mk ((by rw [hg]; exact Nat.ne_of_lt (blk_lt (g := gb397) (o := .cells #[.int .i64 a1_0, .int .i64 a1_1, .int .i64 a1_2, .int .i64 a1_3, .int .i64 a1_4] 27 (0, 0)) (by (with_reducible repeat (first | refine blk_drewN ?_ _ | refine blk_drew ?_ | refine blk_alloc ?_ _)); exact BK397.out)) : gb397 ≠ gb419)); have n12_ := Aside0.mk ((by rw [hg]; exact Nat.ne_of_gt (blk_lt (g := gb397) (o := .cells #[.int .i64 a1_0, .int .i64 a1_1, .int .i64 a1_2, .int .i64 a1_3, .int .i64 a1_4] 27 (0, 0)) (by (with_reducible repeat (first | refine blk_drewN ?_ _ | refine blk_drew ?_ | refine blk_alloc ?_ _)); exact BK397.out)) : gb419 ≠ gb397)); have n13_ := Aside0.mk ((by rw [hg]; exact Nat.ne_of_lt (blk_lt (g := gb409) (o := .cells #[.bool t401, .int .i64 t402, .int .i64 t403, .int .i64 t404, .int .i64 t405, .int .i64 t406, .int .i64 t407] 25 (0, 0)) (by (with_reducible repeat (first | refine blk_drewN ?_ _ | refine blk_drew ?_ | refine blk_alloc ?_ _)); exact BK409.out)) : gb409 ≠ gb419)); have n14_ := Aside0.mk ((by rw [hg]; exact Nat.ne_of_gt (blk_lt (g := gb409) (o := .cells #[.bool t401, .int .i64 t402, .int .i64 t403, .int .i64 t404, .int .i64 t405, .int .i64 t406, .int .i64 t407] 25 (0, 0)) (by (with_reducible repeat (first | refine blk_drewN ?_ _ | refine blk_drew ?_ | refine blk_alloc ?_ _)); exact BK409.out)) : gb419 ≠ gb409)); have n15_ := Aside0.mk ((by rw [hg]; exact Nat.ne_of_lt (blk_lt (g := gb414) (o := .cells #[.int .i64 t410, .int .i64 t411, .int .i64 t412] 23 (0, 0)) (by (with_reducible repeat (first | refine blk_drewN ?_ _ | refine blk_drew ?_ | refine blk_alloc ?_ _)); exact BK414.out)) : gb414 ≠ gb419)); have n16_ := Aside0.mk ((by rw [hg]; exact Nat.ne_of_gt (blk_lt (g := gb414) (o := .cells #[.int .i64 t410, .int .i64 t411, .int .i64 t412] 23 (0, 0)) (by (with_reducible repeat (first | refine blk_drewN ?_ _ | refine blk_drew ?_ | refine blk_alloc ?_ _)); exact BK414.out)) : gb419 ≠ gb414)); clear HO_54; clear BK396; clear BK397; clear BK409; clear BK414; clear HB; have HO_54 := n0_; have BK396 := n1_; have BK397 := n2_; have BK409 := n3_; have BK414 := n4_; have HB := n5_; have BK419 := n6_; have GW419 := n7_; have GE419 := n8_; have NB396_419 := n9_; have NB419_396 := n10_; have NB397_419 := n11_; have NB419_397 := n12_; have NB409_419 := n13_; have NB419_409 := n14_; have NB414_419 := n15_; have NB419_414 := n16_; clear n0_ n1_ n2_ n3_ n4_ n5_ n6_ n7_ n8_ n9_ n10_ n11_ n12_ n13_ n14_ n15_ n16_; clear hb hbox hg; have hnb114 := NB419_396.out; have hnc114 := NB396_419.out; have hnb115 := NB419_397.out; have hnc115 := NB397_419.out; have hnb116 := NB419_409.out; have hnc116 := NB409_419.out; have hnb117 := NB419_414.out; have hnc117 := NB414_419.out; have hcz118_0 : w113.cell? ⟨gb419, 0, none⟩ = some (.int .i64 0) := (blk_cell BK419.out 0).trans rfl; have hcz118_1 : w113.cell? ⟨gb419, 1, none⟩ = some (.int .i64 0) := (blk_cell BK419.out 1).trans rfl; have hcz118_2 : w113.cell? ⟨gb419, 2, none⟩ = some (.int .i64 0) := (blk_cell BK419.out 2).trans rfl; have hfz118_0 := blk_frozen BK419.out 0; have hfz118_1 := blk_frozen BK419.out 1; have hfz118_2 := blk_frozen BK419.out 2; have hnb119 := NB409_396.out; have hnc119 := NB396_409.out; have hnb120 := NB409_397.out; have hnc120 := NB397_409.out; have hnb121 := NB409_414.out; have hnc121 := NB414_409.out; have hcz122_0 : w113.cell? ⟨gb409, 0, none⟩ = some (.bool t401) := (blk_cell BK409.out 0).trans rfl; have hcz122_1 : w113.cell? ⟨gb409, 1, none⟩ = some (.int .i64 t402) := (blk_cell BK409.out 1).trans rfl; have hcz122_2 : w113.cell? ⟨gb409, 2, none⟩ = some (.int .i64 t403) := (blk_cell BK409.out 2).trans rfl; have hcz122_3 : w113.cell? ⟨gb409, 3, none⟩ = some (.int .i64 t404) := (blk_cell BK409.out 3).trans rfl; have hcz122_4 : w113.cell? ⟨gb409, 4, none⟩ = some (.int .i64 t405) := (blk_cell BK409.out 4).trans rfl; have hcz122_5 : w113.cell? ⟨gb409, 5, none⟩ = some (.int .i64 t406) := (blk_cell BK409.out 5).trans rfl; have hcz122_6 : w113.cell? ⟨gb409, 6, none⟩ = some (.int .i64 t407) := (blk_cell BK409.out 6).trans rfl; have hfz122_0 := blk_frozen BK409.out 0; have hfz122_1 := blk_frozen BK409.out 1; have hfz122_2 := blk_frozen BK409.out 2; have hfz122_3 := blk_frozen BK409.out 3; have hfz122_4 := blk_frozen BK409.out 4; have hfz122_5 := blk_frozen BK409.out 5; have hfz122_6 := blk_frozen BK409.out 6) | ((with_reducible refine gate_callee (f := 23) rfl ?_); refine goesL_ (some 71) rfl rfl Try.func23 (by kernel_rfl) rfl #[.agg #[.int .i64 ((rd_T23 y415 x56_3).f0), .int .i64 ((rd_T23 y415 x56_3).f1), .int .i64 ((rd_T23 y415 x56_3).f2)], .int .i64 t404] rfl (by (try simp only [List.map_toArray, List.map_cons, List.map_nil]); first | done | rfl | (simp only [List.length_drop, List.length_take]; rfl)) ?_; (with_reducible refine (bound_Grow.calls k3 ((rd_T23 y415 x56_3).f0) ((rd_T23 y415 x56_3).f1) ((rd_T23 y415 x56_3).f2) t404 t425 t426 t427 t428 _ A109.out).mono ?_); rintro e w123 ⟨rfl, hb⟩; refine ⟨_, rfl, ?_⟩; have n0_ := Aside0.mk (Kd.R_below (by (with_reducible repeat (first | apply Kd.R_alloc | apply Kd.R_drewN | apply Kd.R_drew)); exact (Kd.R_mono (Kd.R_far (p := ⟨gb419, 2, none⟩) (Kd.R_far (p := ⟨gb419, 1, none⟩) (Kd.R_far (p := ⟨gb419, 0, none⟩) (Kd.R_mono HO_54.out (fun k_ hk => (⟨hk, hk.2⟩ : _ ∧ k_ ≠ gb419))) (fun _ hk => hk.2) (.int .i64 ((rd_T23 y415 x56_3).f0))) (fun _ hk => hk.2) (.int .i64 ((rd_T23 y415 x56_3).f1))) (fun _ hk => hk.2) (.int .i64 ((rd_T23 y415 x56_3).f2))) (fun _ h_ => h_.1))) hb); have n1_ := Aside0.mk (blk_below (g := gb396) (o := .cells #[.bool a0_0, .int .i64 a0_1, .int .i64 a0_2, .int .i64 a0_3, .int .i64 a0_4, .int .i64 a0_5, .int .i64 a0_6] 25 (0, 0)) (by (with_reducible repeat (first | refine blk_drewN ?_ _ | refine blk_drew ?_ | refine blk_alloc ?_ _)); refine blk_far ?_ NB396_419.out _; (with_reducible repeat (first | refine blk_drewN ?_ _ | refine blk_drew ?_ | refine blk_alloc ?_ _)); refine blk_far ?_ NB396_419.out _; (with_reducible repeat (first | refine blk_drewN ?_ _ | refine blk_drew ?_ | refine blk_alloc ?_ _)); refine blk_far ?_ NB396_419.out _; (with_reducible repeat (first | refine blk_drewN ?_ _ | refine blk_drew ?_ | refine blk_alloc ?_ _)); exact BK396.out) hb); have n2_ := Aside0.mk (blk_below (g := gb397) (o := .cells #[.int .i64 a1_0, .int .i64 a1_1, .int .i64 a1_2, .int .i64 a1_3, .int .i64 a1_4] 27 (0, 0)) (by (with_reducible repeat (first | refine blk_drewN ?_ _ | refine blk_drew ?_ | refine blk_alloc ?_ _)); refine blk_far ?_ NB397_419.out _; (with_reducible repeat (first | refine blk_drewN ?_ _ | refine blk_drew ?_ | refine blk_alloc ?_ _)); refine blk_far ?_ NB397_419.out _; (with_reducible repeat (first | refine blk_drewN ?_ _ | refine blk_drew ?_ | refine blk_alloc ?_ _)); refine blk_far ?_ NB397_419.out _; (with_reducible repeat (first | refine blk_drewN ?_ _ | refine blk_drew ?_ | refine blk_alloc ?_ _)); exact BK397.out) hb); have n3_ := Aside0.mk (blk_below (g := gb409) (o := .cells #[.bool t401, .int .i64 t402, .int .i64 t403, .int .i64 t404, .int .i64 t405, .int .i64 t406, .int .i64 t407] 25 (0, 0)) (by (with_reducible repeat (first | refine blk_drewN ?_ _ | refine blk_drew ?_ | refine blk_alloc ?_ _)); refine blk_far ?_ NB409_419.out _; (with_reducible repeat (first | refine blk_drewN ?_ _ | refine blk_drew ?_ | refine blk_alloc ?_ _)); refine blk_far ?_ NB409_419.out _; (with_reducible repeat (first | refine blk_drewN ?_ _ | refine blk_drew ?_ | refine blk_alloc ?_ _)); refine blk_far ?_ NB409_419.out _; (with_reducible repeat (first | refine blk_drewN ?_ _ | refine blk_drew ?_ | refine blk_alloc ?_ _)); exact BK409.out) hb); have n4_ := Aside0.mk (blk_below (g := gb414) (o := .cells #[.int .i64 t410, .int .i64 t411, .int .i64 t412] 23 (0, 0)) (by (with_reducible repeat (first | refine blk_drewN ?_ _ | refine blk_drew ?_ | refine blk_alloc ?_ _)); refine blk_far ?_ NB414_419.out _; (with_reducible repeat (first | refine blk_drewN ?_ _ | refine blk_drew ?_ | refine blk_alloc ?_ _)); refine blk_far ?_ NB414_419.out _; (with_reducible repeat (first | refine blk_drewN ?_ _ | refine blk_drew ?_ | refine blk_alloc ?_ _)); refine blk_far ?_ NB414_419.out _; (with_reducible repeat (first | refine blk_drewN ?_ _ | refine blk_drew ?_ | refine blk_alloc ?_ _)); exact BK414.out) hb); have n5_ := Aside0.mk (blk_below (g := gb419) (o := .cells #[.int .i64 ((rd_T23 y415 x56_3).f0), .int .i64 ((rd_T23 y415 x56_3).f1), .int .i64 ((rd_T23 y415 x56_3).f2)] 23 (0, 0)) (by (with_reducible repeat (first | refine blk_drewN ?_ _ | refine blk_drew ?_ | refine blk_alloc ?_ _)); refine blk_put (cs := #[.int .i64 ((rd_T23 y415 x56_3).f0), .int .i64 ((rd_T23 y415 x56_3).f1), .int .i64 0]) ?_ 2 _ rfl; (with_reducible repeat (first | refine blk_drewN ?_ _ | refine blk_drew ?_ | refine blk_alloc ?_ _)); refine blk_put (cs := #[.int .i64 ((rd_T23 y415 x56_3).f0), .int .i64 0, .int .i64 0]) ?_ 1 _ rfl; (with_reducible repeat (first | refine blk_drewN ?_ _ | refine blk_drew ?_ | refine blk_alloc ?_ _)); refine blk_put (cs := #[.int .i64 0, .int .i64 0, .int .i64 0]) ?_ 0 _ rfl; (with_reducible repeat (first | refine blk_drewN ?_ _ | refine blk_drew ?_ | refine blk_alloc ?_ _)); exact BK419.out) hb); have n6_ := Aside0.mk (below_step (by repeat (first | (with_reducible first | exact HB.out | apply below_alloc | apply pw_below_drewN | apply below_drew1 | refine below_set ?_ GE396.out | refine below_set ?_ GE397.out | refine below_set ?_ GE409.out | refine below_set ?_ GE414.out | refine below_set ?_ GE419.out) | exact HB.out)) hb); clear HO_54; clear BK396; clear BK397; clear BK409; clear BK414; clear BK419; clear HB; have HO_54 := n0_; have BK396 := n1_; have BK397 := n2_; have BK409 := n3_; have BK414 := n4_; have BK419 := n5_; have HB := n6_; clear n0_ n1_ n2_ n3_ n4_ n5_ n6_; (try clear hb); (try clear hb2); (try clear hk); (try clear hi)) | ((with_reducible refine gate_dst (N := 12) rfl ?_); (try (refine gate_guard (by rfl) ?_; dsimp only)); refine box_event ?hg (N := 12) ?hd (cs := #[.int .i64 0, .int .i64 0, .int .i64 0]) (t := 23) ?hr ?_; (case hd => rfl); (case hg => rfl); (case hr => first | (go_simp; done) | (go_simp; rfl)); intro gb429 hg w124 hbox hb; have n0_ := Aside0.mk (Kd.R_below (Kd.R_elderB (by (with_reducible repeat (first | apply Kd.R_alloc | apply Kd.R_drewN | apply Kd.R_drew)); exact HO_54.out) gb429 (Nat.le_of_eq hg.symm)) hb); have n1_ := Aside0.mk (blk_below (g := gb396) (o := .cells #[.bool a0_0, .int .i64 a0_1, .int .i64 a0_2, .int .i64 a0_3, .int .i64 a0_4, .int .i64 a0_5, .int .i64 a0_6] 25 (0, 0)) (by (with_reducible repeat (first | refine blk_drewN ?_ _ | refine blk_drew ?_ | refine blk_alloc ?_ _)); exact BK396.out) hb); have n2_ := Aside0.mk (blk_below (g := gb397) (o := .cells #[.int .i64 a1_0, .int .i64 a1_1, .int .i64 a1_2, .int .i64 a1_3, .int .i64 a1_4] 27 (0, 0)) (by (with_reducible repeat (first | refine blk_drewN ?_ _ | refine blk_drew ?_ | refine blk_alloc ?_ _)); exact BK397.out) hb); have n3_ := Aside0.mk (blk_below (g := gb409) (o := .cells #[.bool t401, .int .i64 t402, .int .i64 t403, .int .i64 t404, .int .i64 t405, .int .i64 t406, .int .i64 t407] 25 (0, 0)) (by (with_reducible repeat (first | refine blk_drewN ?_ _ | refine blk_drew ?_ | refine blk_alloc ?_ _)); exact BK409.out) hb); have n4_ := Aside0.mk (blk_below (g := gb414) (o := .cells #[.int .i64 t410, .int .i64 t411, .int .i64 t412] 23 (0, 0)) (by (with_reducible repeat (first | refine blk_drewN ?_ _ | refine blk_drew ?_ | refine blk_alloc ?_ _)); exact BK414.out) hb); have n5_ := Aside0.mk (blk_below (g := gb419) (o := .cells #[.int .i64 ((rd_T23 y415 x56_3).f0), .int .i64 ((rd_T23 y415 x56_3).f1), .int .i64 ((rd_T23 y415 x56_3).f2)] 23 (0, 0)) (by (with_reducible repeat (first | refine blk_drewN ?_ _ | refine blk_drew ?_ | refine blk_alloc ?_ _)); exact BK419.out) hb); have n6_ := Aside0.mk (below_step (by repeat (first | (with_reducible first | exact HB.out | apply below_alloc | apply pw_below_drewN | apply below_drew1 | refine below_set ?_ GE396.out | refine below_set ?_ GE397.out | refine below_set ?_ GE409.out | refine below_set ?_ GE414.out | refine below_set ?_ GE419.out) | exact HB.out)) hb); have n7_ := Aside0.mk (hbox); have n8_ := Aside0.mk ((by rw [hg]; exact (below_size (by repeat (first | (with_reducible first | exact HB.out | apply below_alloc | apply pw_below_drewN | apply below_drew1 | refine below_set ?_ GE396.out | refine below_set ?_ GE397.out | refine below_set ?_ GE409.out | refine below_set ?_ GE414.out | refine below_set ?_ GE419.out) | exact HB.out))) : w.heap.size ≤ gb429)); have n9_ := Aside0.mk ((by rw [hg]; exact (below_size (by repeat (first | (with_reducible first | exact HB.out | apply below_alloc | apply pw_below_drewN | apply below_drew1 | refine below_set ?_ GE396.out | refine below_set ?_ GE397.out | refine below_set ?_ GE409.out | refine below_set ?_ GE414.out | refine below_set ?_ GE419.out) | exact HB.out))) : w.heap.size ≤ gb429)); have n10_ := Aside0.mk ((by rw [hg]; exact Nat.ne_of_lt (blk_lt (g := gb396) (o := .cells #[.bool a0_0, .int .i64 a0_1, .int .i64 a0_2, .int .i64 a0_3, .int .i64 a0_4, .int .i64 a0_5, .int .i64 a0_6] 25 (0, 0)) (by (with_reducible repeat (first | refine blk_drewN ?_ _ | refine blk_drew ?_ | refine blk_alloc ?_ _)); exact BK396.out)) : gb396 ≠ gb429)); have n11_ := Aside0.mk ((by rw [hg]; exact Nat.ne_of_gt (blk_lt (g := gb396) (o := .cells #[.bool a0_0, .int .i64 a0_1, .int .i64 a0_2, .int .i64 a0_3, .int .i64 a0_4, .int .i64 a0_5, .int .i64 a0_6] 25 (0, 0)) (by (with_reducible repeat (first | refine blk_drewN ?_ _ | refine blk_drew ?_ | refine blk_alloc ?_ _)); exact BK396.out)) : gb429 ≠ gb396)); have n12_ := Aside0.mk ((by rw [hg]; exact Nat.ne_of_lt (blk_lt (g := gb397) (o := .cells #[.int .i64 a1_0, .int .i64 a1_1, .int .i64 a1_2, .int .i64 a1_3, .int .i64 a1_4] 27 (0, 0)) (by (with_reducible repeat (first | refine blk_drewN ?_ _ | refine blk_drew ?_ | refine blk_alloc ?_ _)); exact BK397.out)) : gb397 ≠ gb429)); have n13_ := Aside0.mk ((by rw [hg]; exact Nat.ne_of_gt (blk_lt (g := gb397) (o := .cells #[.int .i64 a1_0, .int .i64 a1_1, .int .i64 a1_2, .int .i64 a1_3, .int .i64 a1_4] 27 (0, 0)) (by (with_reducible repeat (first | refine blk_drewN ?_ _ | refine blk_drew ?_ | refine blk_alloc ?_ _)); exact BK397.out)) : gb429 ≠ gb397)); have n14_ := Aside0.mk ((by rw [hg]; exact Nat.ne_of_lt (blk_lt (g := gb409) (o := .cells #[.bool t401, .int .i64 t402, .int .i64 t403, .int .i64 t404, .int .i64 t405, .int .i64 t406, .int .i64 t407] 25 (0, 0)) (by (with_reducible repeat (first | refine blk_drewN ?_ _ | refine blk_drew ?_ | refine blk_alloc ?_ _)); exact BK409.out)) : gb409 ≠ gb429)); have n15_ := Aside0.mk ((by rw [hg]; exact Nat.ne_of_gt (blk_lt (g := gb409) (o := .cells #[.bool t401, .int .i64 t402, .int .i64 t403, .int .i64 t404, .int .i64 t405, .int .i64 t406, .int .i64 t407] 25 (0, 0)) (by (with_reducible repeat (first | refine blk_drewN ?_ _ | refine blk_drew ?_ | refine blk_alloc ?_ _)); exact BK409.out)) : gb429 ≠ gb409)); have n16_ := Aside0.mk ((by rw [hg]; exact Nat.ne_of_lt (blk_lt (g := gb414) (o := .cells #[.int .i64 t410, .int .i64 t411, .int .i64 t412] 23 (0, 0)) (by (with_reducible repeat (first | refine blk_drewN ?_ _ | refine blk_drew ?_ | refine blk_alloc ?_ _)); exact BK414.out)) : gb414 ≠ gb429)); have n17_ := Aside0.mk ((by rw [hg]; exact Nat.ne_of_gt (blk_lt (g := gb414) (o := .cells #[.int .i64 t410, .int .i64 t411, .int .i64 t412] 23 (0, 0)) (by (with_reducible repeat (first | refine blk_drewN ?_ _ | refine blk_drew ?_ | refine blk_alloc ?_ _)); exact BK414.out)) : gb429 ≠ gb414)); have n18_ := Aside0.mk ((by rw [hg]; exact Nat.ne_of_lt (blk_lt (g := gb419) (o := .cells #[.int .i64 ((rd_T23 y415 x56_3).f0), .int .i64 ((rd_T23 y415 x56_3).f1), .int .i64 ((rd_T23 y415 x56_3).f2)] 23 (0, 0)) (by (with_reducible repeat (first | refine blk_drewN ?_ _ | refine blk_drew ?_ | refine blk_alloc ?_ _)); exact BK419.out)) : gb419 ≠ gb429)); have n19_ := Aside0.mk ((by rw [hg]; exact Nat.ne_of_gt (blk_lt (g := gb419) (o := .cells #[.int .i64 ((rd_T23 y415 x56_3).f0), .int .i64 ((rd_T23 y415 x56_3).f1), .int .i64 ((rd_T23 y415 x56_3).f2)] 23 (0, 0)) (by (with_reducible repeat (first | refine blk_drewN ?_ _ | refine blk_drew ?_ | refine blk_alloc ?_ _)); exact BK419.out)) : gb429 ≠ gb419)); clear HO_54; clear BK396; clear BK397; clear BK409; clear BK414; clear BK419; clear HB; have HO_54 := n0_; have BK396 := n1_; have BK397 := n2_; have BK409 := n3_; have BK414 := n4_; have BK419 := n5_; have HB := n6_; have BK429 := n7_; have GW429 := n8_; have GE429 := n9_; have NB396_429 := n10_; have NB429_396 := n11_; have NB397_429 := n12_; have NB429_397 := n13_; have NB409_429 := n14_; have NB429_409 := n15_; have NB414_429 := n16_; have NB429_414 := n17_; have NB419_429 := n18_; have NB429_419 := n19_; clear n0_ n1_ n2_ n3_ n4_ n5_ n6_ n7_ n8_ n9_ n10_ n11_ n12_ n13_ n14_ n15_ n16_ n17_ n18_ n19_; clear hb hbox hg; have hnb125 := NB429_396.out; have hnc125 := NB396_429.out; have hnb126 := NB429_397.out; have hnc126 := NB397_429.out; have hnb127 := NB429_409.out; have hnc127 := NB409_429.out; have hnb128 := NB429_414.out; have hnc128 := NB414_429.out; have hnb129 := NB429_419.out; have hnc129 := NB419_429.out; have hcz130_0 : w124.cell? ⟨gb429, 0, none⟩ = some (.int .i64 0) := (blk_cell BK429.out 0).trans rfl; have hcz130_1 : w124.cell? ⟨gb429, 1, none⟩ = some (.int .i64 0) := (blk_cell BK429.out 1).trans rfl; have hcz130_2 : w124.cell? ⟨gb429, 2, none⟩ = some (.int .i64 0) := (blk_cell BK429.out 2).trans rfl; have hfz130_0 := blk_frozen BK429.out 0; have hfz130_1 := blk_frozen BK429.out 1; have hfz130_2 := blk_frozen BK429.out 2; have hcz131_0 : w124.cell? ⟨gb419, 0, none⟩ = some (.int .i64 ((rd_T23 y415 x56_3).f0)) := (blk_cell BK419.out 0).trans rfl; have hcz131_1 : w124.cell? ⟨gb419, 1, none⟩ = some (.int .i64 ((rd_T23 y415 x56_3).f1)) := (blk_cell BK419.out 1).trans rfl; have hcz131_2 : w124.cell? ⟨gb419, 2, none⟩ = some (.int .i64 ((rd_T23 y415 x56_3).f2)) := (blk_cell BK419.out 2).trans rfl; have hfz131_0 := blk_frozen BK419.out 0; have hfz131_1 := blk_frozen BK419.out 1; have hfz131_2 := blk_frozen BK419.out 2; have hcz132_0 : w124.cell? ⟨gb409, 0, none⟩ = some (.bool t401) := (blk_cell BK409.out 0).trans rfl; have hcz132_1 : w124.cell? ⟨gb409, 1, none⟩ = some (.int .i64 t402) := (blk_cell BK409.out 1).trans rfl; have hcz132_2 : w124.cell? ⟨gb409, 2, none⟩ = some (.int .i64 t403) := (blk_cell BK409.out 2).trans rfl; have hcz132_3 : w124.cell? ⟨gb409, 3, none⟩ = some (.int .i64 t404) := (blk_cell BK409.out 3).trans rfl; have hcz132_4 : w124.cell? ⟨gb409, 4, none⟩ = some (.int .i64 t405) := (blk_cell BK409.out 4).trans rfl; have hcz132_5 : w124.cell? ⟨gb409, 5, none⟩ = some (.int .i64 t406) := (blk_cell BK409.out 5).trans rfl; have hcz132_6 : w124.cell? ⟨gb409, 6, none⟩ = some (.int .i64 t407) := (blk_cell BK409.out 6).trans rfl; have hfz132_0 := blk_frozen BK409.out 0; have hfz132_1 := blk_frozen BK409.out 1; have hfz132_2 := blk_frozen BK409.out 2; have hfz132_3 := blk_frozen BK409.out 3; have hfz132_4 := blk_frozen BK409.out 4; have hfz132_5 := blk_frozen BK409.out 5; have hfz132_6 := blk_frozen BK409.out 6))
                                  go_roundg k3
                                  case measure => have := HJ3.out; have := HJ25.out; have := HK3.out; omega
                                  case rel => exact ⟨(wrap64 (x56_3 + 1)), (by first | rfl | (simp; done) | (simp [*]; done)), H', ⟨by have := HJ3.out; have := HJ25.out; have := HK3.out; omega⟩, ⟨by (with_reducible repeat (first | apply Kd.R_alloc | apply Kd.R_drewN | apply Kd.R_drew)); exact Kd.R_mono (Kd.R_far (p := ⟨gb419, 2, none⟩) (Kd.R_far (p := ⟨gb419, 1, none⟩) (Kd.R_far (p := ⟨gb419, 0, none⟩) (Kd.R_far (p := ⟨gb429, 2, none⟩) (Kd.R_far (p := ⟨gb429, 1, none⟩) (Kd.R_far (p := ⟨gb429, 0, none⟩) (Kd.R_mono (Kd.R_mono HO_54.out (fun k_ hk => (⟨hk, hk.2⟩ : _ ∧ k_ ≠ gb429))) (fun k_ hk => (⟨hk, hk.1.1.2⟩ : _ ∧ k_ ≠ gb419))) (fun _ hk => hk.1.2) (.int .i64 t425)) (fun _ hk => hk.1.2) (.int .i64 t426)) (fun _ hk => hk.1.2) (.int .i64 t427)) (fun _ hk => hk.2) (.int .i64 t425)) (fun _ hk => hk.2) (.int .i64 t426)) (fun _ hk => hk.2) (.int .i64 t427)) (fun _ hk => hk.1.1.1.1)⟩, ⟨by (with_reducible repeat (first | refine blk_drewN ?_ _ | refine blk_drew ?_ | refine blk_alloc ?_ _)); refine blk_far ?_ NB396_419.out _; (with_reducible repeat (first | refine blk_drewN ?_ _ | refine blk_drew ?_ | refine blk_alloc ?_ _)); refine blk_far ?_ NB396_419.out _; (with_reducible repeat (first | refine blk_drewN ?_ _ | refine blk_drew ?_ | refine blk_alloc ?_ _)); refine blk_far ?_ NB396_419.out _; (with_reducible repeat (first | refine blk_drewN ?_ _ | refine blk_drew ?_ | refine blk_alloc ?_ _)); refine blk_far ?_ NB396_429.out _; (with_reducible repeat (first | refine blk_drewN ?_ _ | refine blk_drew ?_ | refine blk_alloc ?_ _)); refine blk_far ?_ NB396_429.out _; (with_reducible repeat (first | refine blk_drewN ?_ _ | refine blk_drew ?_ | refine blk_alloc ?_ _)); refine blk_far ?_ NB396_429.out _; (with_reducible repeat (first | refine blk_drewN ?_ _ | refine blk_drew ?_ | refine blk_alloc ?_ _)); exact BK396.out⟩, ⟨by (with_reducible repeat (first | refine blk_drewN ?_ _ | refine blk_drew ?_ | refine blk_alloc ?_ _)); refine blk_far ?_ NB397_419.out _; (with_reducible repeat (first | refine blk_drewN ?_ _ | refine blk_drew ?_ | refine blk_alloc ?_ _)); refine blk_far ?_ NB397_419.out _; (with_reducible repeat (first | refine blk_drewN ?_ _ | refine blk_drew ?_ | refine blk_alloc ?_ _)); refine blk_far ?_ NB397_419.out _; (with_reducible repeat (first | refine blk_drewN ?_ _ | refine blk_drew ?_ | refine blk_alloc ?_ _)); refine blk_far ?_ NB397_429.out _; (with_reducible repeat (first | refine blk_drewN ?_ _ | refine blk_drew ?_ | refine blk_alloc ?_ _)); refine blk_far ?_ NB397_429.out _; (with_reducible repeat (first | refine blk_drewN ?_ _ | refine blk_drew ?_ | refine blk_alloc ?_ _)); refine blk_far ?_ NB397_429.out _; (with_reducible repeat (first | refine blk_drewN ?_ _ | refine blk_drew ?_ | refine blk_alloc ?_ _)); exact BK397.out⟩, ⟨by (with_reducible repeat (first | refine blk_drewN ?_ _ | refine blk_drew ?_ | refine blk_alloc ?_ _)); refine blk_far ?_ NB409_419.out _; (with_reducible repeat (first | refine blk_drewN ?_ _ | refine blk_drew ?_ | refine blk_alloc ?_ _)); refine blk_far ?_ NB409_419.out _; (with_reducible repeat (first | refine blk_drewN ?_ _ | refine blk_drew ?_ | refine blk_alloc ?_ _)); refine blk_far ?_ NB409_419.out _; (with_reducible repeat (first | refine blk_drewN ?_ _ | refine blk_drew ?_ | refine blk_alloc ?_ _)); refine blk_far ?_ NB409_429.out _; (with_reducible repeat (first | refine blk_drewN ?_ _ | refine blk_drew ?_ | refine blk_alloc ?_ _)); refine blk_far ?_ NB409_429.out _; (with_reducible repeat (first | refine blk_drewN ?_ _ | refine blk_drew ?_ | refine blk_alloc ?_ _)); refine blk_far ?_ NB409_429.out _; (with_reducible repeat (first | refine blk_drewN ?_ _ | refine blk_drew ?_ | refine blk_alloc ?_ _)); exact BK409.out⟩, ⟨by (with_reducible repeat (first | refine blk_drewN ?_ _ | refine blk_drew ?_ | refine blk_alloc ?_ _)); refine blk_far ?_ NB414_419.out _; (with_reducible repeat (first | refine blk_drewN ?_ _ | refine blk_drew ?_ | refine blk_alloc ?_ _)); refine blk_far ?_ NB414_419.out _; (with_reducible repeat (first | refine blk_drewN ?_ _ | refine blk_drew ?_ | refine blk_alloc ?_ _)); refine blk_far ?_ NB414_419.out _; (with_reducible repeat (first | refine blk_drewN ?_ _ | refine blk_drew ?_ | refine blk_alloc ?_ _)); refine blk_far ?_ NB414_429.out _; (with_reducible repeat (first | refine blk_drewN ?_ _ | refine blk_drew ?_ | refine blk_alloc ?_ _)); refine blk_far ?_ NB414_429.out _; (with_reducible repeat (first | refine blk_drewN ?_ _ | refine blk_drew ?_ | refine blk_alloc ?_ _)); refine blk_far ?_ NB414_429.out _; (with_reducible repeat (first | refine blk_drewN ?_ _ | refine blk_drew ?_ | refine blk_alloc ?_ _)); exact BK414.out⟩, ⟨by repeat (first | (with_reducible first | exact HB.out | apply below_alloc | apply pw_below_drewN | apply below_drew1 | refine below_set ?_ GE396.out | refine below_set ?_ GE397.out | refine below_set ?_ GE409.out | refine below_set ?_ GE414.out | refine below_set ?_ GE419.out | refine below_set ?_ GE429.out) | exact HB.out)⟩⟩
                            · rw [if_neg c110] at H
                              exact absurd H (by simp)
                        · rw [if_neg c60] at H
                          exact absurd H (by simp)
                      · rw [if_neg c59] at H
                        exact absurd H (by simp)
                    · rw [if_neg c58] at H
                      have c58b0 : decide (x56_3 < (y415.length : Int)) = false := decide_eq_false c58
                      clear c58
                      by_cases c133 : t398 = true
                      · subst c133
                        have H1 : (some (t404 == (mx a0_3 t412))) = some r := by rw [if_pos rfl] at H; exact H
                        clear H
                        have H := H1
                        clear H1
                        obtain ⟨ji134, hji134⟩ : ∃ j_ : Int, (mx a0_3 t412) = j_ := ⟨_, rfl⟩
                        replace H : (some (t404 == (ji134))) = some r := by first | (rw [hji134] at H; exact H) | (simp only [hji134] at H ⊢; exact H)
                        have hji134_ : (if a0_3 < t412 then t412 else a0_3) = ji134 := hji134
                        obtain rfl := Option.some.inj H
                        have hnb135 := NB409_396.out
                        have hnc135 := NB396_409.out
                        have hnb136 := NB409_397.out
                        have hnc136 := NB397_409.out
                        have hnb137 := NB409_414.out
                        have hnc137 := NB414_409.out
                        have hcz138_0 : wr.cell? ⟨gb409, 0, none⟩ = some (.bool t401) := (blk_cell BK409.out 0).trans rfl
                        have hcz138_1 : wr.cell? ⟨gb409, 1, none⟩ = some (.int .i64 t402) := (blk_cell BK409.out 1).trans rfl
                        have hcz138_2 : wr.cell? ⟨gb409, 2, none⟩ = some (.int .i64 t403) := (blk_cell BK409.out 2).trans rfl
                        have hcz138_3 : wr.cell? ⟨gb409, 3, none⟩ = some (.int .i64 t404) := (blk_cell BK409.out 3).trans rfl
                        have hcz138_4 : wr.cell? ⟨gb409, 4, none⟩ = some (.int .i64 t405) := (blk_cell BK409.out 4).trans rfl
                        have hcz138_5 : wr.cell? ⟨gb409, 5, none⟩ = some (.int .i64 t406) := (blk_cell BK409.out 5).trans rfl
                        have hcz138_6 : wr.cell? ⟨gb409, 6, none⟩ = some (.int .i64 t407) := (blk_cell BK409.out 6).trans rfl
                        have hfz138_0 := blk_frozen BK409.out 0
                        have hfz138_1 := blk_frozen BK409.out 1
                        have hfz138_2 := blk_frozen BK409.out 2
                        have hfz138_3 := blk_frozen BK409.out 3
                        have hfz138_4 := blk_frozen BK409.out 4
                        have hfz138_5 := blk_frozen BK409.out 5
                        have hfz138_6 := blk_frozen BK409.out 6
                        have hnb139 := NB396_397.out
                        have hnc139 := NB397_396.out
                        have hnb140 := NB396_414.out
                        have hnc140 := NB414_396.out
                        have hcz141_0 : wr.cell? ⟨gb396, 0, none⟩ = some (.bool a0_0) := (blk_cell BK396.out 0).trans rfl
                        have hcz141_1 : wr.cell? ⟨gb396, 1, none⟩ = some (.int .i64 a0_1) := (blk_cell BK396.out 1).trans rfl
                        have hcz141_2 : wr.cell? ⟨gb396, 2, none⟩ = some (.int .i64 a0_2) := (blk_cell BK396.out 2).trans rfl
                        have hcz141_3 : wr.cell? ⟨gb396, 3, none⟩ = some (.int .i64 a0_3) := (blk_cell BK396.out 3).trans rfl
                        have hcz141_4 : wr.cell? ⟨gb396, 4, none⟩ = some (.int .i64 a0_4) := (blk_cell BK396.out 4).trans rfl
                        have hcz141_5 : wr.cell? ⟨gb396, 5, none⟩ = some (.int .i64 a0_5) := (blk_cell BK396.out 5).trans rfl
                        have hcz141_6 : wr.cell? ⟨gb396, 6, none⟩ = some (.int .i64 a0_6) := (blk_cell BK396.out 6).trans rfl
                        have hfz141_0 := blk_frozen BK396.out 0
                        have hfz141_1 := blk_frozen BK396.out 1
                        have hfz141_2 := blk_frozen BK396.out 2
                        have hfz141_3 := blk_frozen BK396.out 3
                        have hfz141_4 := blk_frozen BK396.out 4
                        have hfz141_5 := blk_frozen BK396.out 5
                        have hfz141_6 := blk_frozen BK396.out 6
                        have hnb142 := NB414_397.out
                        have hnc142 := NB397_414.out
                        have hcz143_0 : wr.cell? ⟨gb414, 0, none⟩ = some (.int .i64 t410) := (blk_cell BK414.out 0).trans rfl
                        have hcz143_1 : wr.cell? ⟨gb414, 1, none⟩ = some (.int .i64 t411) := (blk_cell BK414.out 1).trans rfl
                        have hcz143_2 : wr.cell? ⟨gb414, 2, none⟩ = some (.int .i64 t412) := (blk_cell BK414.out 2).trans rfl
                        have hfz143_0 := blk_frozen BK414.out 0
                        have hfz143_1 := blk_frozen BK414.out 1
                        have hfz143_2 := blk_frozen BK414.out 2
                        go_wp2
                        go_ret
                        exact ⟨by first | rfl | (simp [errW_none, errW_some] <;> rfl) | (simp only [← hji134]; first | rfl | (simp [errW_none, errW_some] <;> rfl)) | (simp [*, errW_none, errW_some] <;> rfl), by repeat (first | (with_reducible first | exact HB.out | apply below_alloc | apply pw_below_drewN | apply below_drew1 | refine below_set ?_ GE396.out | refine below_set ?_ GE397.out | refine below_set ?_ GE409.out | refine below_set ?_ GE414.out) | exact HB.out)⟩
                      · replace c133 := Bool.eq_false_iff.mpr c133
                        subst c133
                        have H1 : (none) = some r := by rw [if_neg (show ¬ (false = true) by decide)] at H; exact H
                        clear H
                        have H := H1
                        clear H1
                        exact absurd H (by simp)
              · rw [if_neg c43] at H
                exact absurd H (by simp)
end Go.Proofs.Ytkbfhonoamgjgaa.P
end
