/- The Go functions of this claim as Lean functions, and the proofs that their calls answer so: written by wip/myprint.py over the kit's printer, hand-proved contracts laid in. Conditions: none. -/
import Derived.Test.YtjmpgefhdafmfaaPx0
import Derived.Test.YtjmpgefhdafmfaaPx7
import Derived.Test.YtjmpgefhdafmfaaPx9
import Derived.Test.YtjmpgefhdafmfaaPx11
import Derived.Test.YtjmpgefhdafmfaaPx28
import Derived.Test.YtjmpgefhdafmfaaPx30
namespace Go.Proofs.Ytjmpgefhdafmfaa.P
open Go.RowKit Go.Proofs.YtjmpgefhdafmfaaW.PrintWords Go.Proofs.YtjmpgefhdafmfaaW.PrintLast Go.Proofs.YtjmpgefhdafmfaaW.PrintMore
attribute [local go_sem] max2_int min2_int max_two min_two max_three min_three max_four min_four   -- for this text's walks alone
set_option linter.unusedVariables false
set_option linter.unusedSimpArgs false

/-! ### slotmeshlaw08_BoundHearing: function 10 -/
def slotmeshlaw08_BoundHearing.f (k : Nat) (a0_0 : Int) (a0_1 : Int) (a1 : Int) (a2 : Int) (a3 : Int) : Option (Bool) := (slotmeshlaw08_head.f).bind fun t340 => (if (wrap64 ((wrap64 (2 * (Int.tmod (wrap64 (a2)) 2001))) + 1)) = 0 then (none) else ((clock_Show.f a0_0 a0_1 (wrap64 ((wrap64 ((wrap64 ((Int.tmod (wrap64 (a1)) 1000000000) * 10000)) - (Int.tmod (wrap64 (a2)) 2001))) + (Int.tmod (wrap64 (a3)) (wrap64 ((wrap64 (2 * (Int.tmod (wrap64 (a2)) 2001))) + 1)))))).bind fun bt342 => (if bt342.2 = 0 then ((bound_Heard.f k 0 0 (Int.tmod (wrap64 (a2)) 2001) (Int.tmod (wrap64 (a1)) 1000000000) bt342.1).bind fun bt344 => (if t340 = true then (if bt344.2.2.2 = 0 then ((slotmeshref08_True.f bt344.1 bt344.2.1 bt344.2.2.1 (wrap64 ((wrap64 ((wrap64 ((Int.tmod (wrap64 (a1)) 1000000000) * 10000)) - (Int.tmod (wrap64 (a2)) 2001))) + (Int.tmod (wrap64 (a3)) (wrap64 ((wrap64 (2 * (Int.tmod (wrap64 (a2)) 2001))) + 1))))) bt342.1).bind fun t349 => (if t349 = true then ((bound_Width.f k bt344.1 bt344.2.1 bt344.2.2.1).bind fun t350 => (some (t350 == (wrap64 (2 * (Int.tmod (wrap64 (a2)) 2001)))))) else (none))) else (none)) else (none))) else (some t340))))
theorem slotmeshlaw08_BoundHearing.mono : ∀ a0 a1 a2 a3 a4 k, LeO (slotmeshlaw08_BoundHearing.f k a0 a1 a2 a3 a4) (slotmeshlaw08_BoundHearing.f (k + 1) a0 a1 a2 a3 a4) := by
  intro a0 a1 a2 a3 a4 k
  unfold slotmeshlaw08_BoundHearing.f
  repeat' first
      | (with_reducible exact bound_Heard.mono _ _ _ _ _ _)
      | (with_reducible exact bound_Width.mono _ _ _ _)
      | (with_reducible exact LeO.refl _)
      | (with_reducible exact LeO.none _)
      | (with_reducible refine LeO.ite ?_ ?_)
      | (with_reducible refine LeO.bind ?_ (fun _ => ?_))
      | exact bound_Heard.mono _ _ _ _ _ _
      | exact bound_Width.mono _ _ _ _
      | exact LeO.none _
      | refine LeO.ite ?_ ?_
      | refine LeO.bind ?_ (fun _ => ?_)
def slotmeshlaw08_BoundHearing.T3 : Bool × List (List Nat × List Nat) := (true, [([], []), ([0], [0]), ([1], [1]), ([], []), ([3], [3]), ([2, 4], [2, 4]), ([], []), ([6], [6]), ([], []), ([8], [8]), ([9], [9]), ([10], [10]), ([7, 11], [7, 11]), ([5, 12], [5, 12]), ([13, 0, 1, 2, 3, 4, 5, 6, 7, 8, 9, 10, 11, 12, 13], [13])])
def slotmeshlaw08_BoundHearing.B3 : List Nat := [0, 1, 3, 0, 8, 31, 0, 64, 0, 256, 768, 1792, 4032, 8191, 16383]
theorem slotmeshlaw08_BoundHearing.tab3 : rtab .any (opsOf Try.f10 3) = slotmeshlaw08_BoundHearing.T3 := by kernel_rfl
theorem slotmeshlaw08_BoundHearing.bits3 : waitsOk slotmeshlaw08_BoundHearing.T3.2 slotmeshlaw08_BoundHearing.B3 = true := by kernel_rfl
def slotmeshlaw08_BoundHearing.T9 : Bool × List (List Nat × List Nat) := (true, [([], []), ([0], [0]), ([1], [1]), ([2, 1], [1, 2]), ([1, 3], [1, 3]), ([4, 1], [4]), ([5], [5]), ([5], [5]), ([5], [5]), ([6, 7, 8, 5, 5], [5, 6, 7, 8]), ([5, 9], [5, 9]), ([10, 9], [10]), ([11], [11]), ([12, 11, 11], [11, 12]), ([11], [11]), ([14, 11], [11, 14]), ([15, 11], [11, 15]), ([13, 16, 11], [11, 13, 16]), ([11, 17], [11, 17]), ([18, 13, 0, 1, 2, 3, 4, 5, 6, 7, 8, 9, 10, 11, 12, 13, 14, 15, 16, 17, 18], [18])])
def slotmeshlaw08_BoundHearing.B9 : List Nat := [0, 1, 3, 7, 15, 31, 63, 63, 63, 511, 1023, 2047, 4095, 8191, 4095, 20479, 53247, 131071, 262143, 524287]
theorem slotmeshlaw08_BoundHearing.tab9 : rtab .any (opsOf Try.f10 9) = slotmeshlaw08_BoundHearing.T9 := by kernel_rfl
theorem slotmeshlaw08_BoundHearing.bits9 : waitsOk slotmeshlaw08_BoundHearing.T9.2 slotmeshlaw08_BoundHearing.B9 = true := by kernel_rfl
set_option maxHeartbeats 8000000 in
set_option maxRecDepth 100000 in
theorem slotmeshlaw08_BoundHearing.calls (k : Nat) (a0_0 : Int) (a0_1 : Int) (a1 : Int) (a2 : Int) (a3 : Int) (r : Bool) (w : World) (h : slotmeshlaw08_BoundHearing.f k a0_0 a0_1 a1 a2 a3 = some r) :
    Calls Try.prog 10 #[.agg #[.int .i64 a0_0, .int .i64 a0_1], .int .u32 a1, .int .u16 a2, .int .u16 a3] w fun e w' => e = .returned (.bool r) ∧ Below w.heap.size w w' := by
  have hu41 := Try.underlying41
  have hu25 := Try.underlying25
  have hu23 := Try.underlying23
  have HB := Aside0.mk (Below.refl w.heap.size w)
  have H : ((slotmeshlaw08_head.f).bind fun t340 => (if (wrap64 ((wrap64 (2 * (Int.tmod (wrap64 (a2)) 2001))) + 1)) = 0 then (none) else ((clock_Show.f a0_0 a0_1 (wrap64 ((wrap64 ((wrap64 ((Int.tmod (wrap64 (a1)) 1000000000) * 10000)) - (Int.tmod (wrap64 (a2)) 2001))) + (Int.tmod (wrap64 (a3)) (wrap64 ((wrap64 (2 * (Int.tmod (wrap64 (a2)) 2001))) + 1)))))).bind fun bt342 => (if bt342.2 = 0 then ((bound_Heard.f k 0 0 (Int.tmod (wrap64 (a2)) 2001) (Int.tmod (wrap64 (a1)) 1000000000) bt342.1).bind fun bt344 => (if t340 = true then (if bt344.2.2.2 = 0 then ((slotmeshref08_True.f bt344.1 bt344.2.1 bt344.2.2.1 (wrap64 ((wrap64 ((wrap64 ((Int.tmod (wrap64 (a1)) 1000000000) * 10000)) - (Int.tmod (wrap64 (a2)) 2001))) + (Int.tmod (wrap64 (a3)) (wrap64 ((wrap64 (2 * (Int.tmod (wrap64 (a2)) 2001))) + 1))))) bt342.1).bind fun t349 => (if t349 = true then ((bound_Width.f k bt344.1 bt344.2.1 bt344.2.2.1).bind fun t350 => (some (t350 == (wrap64 (2 * (Int.tmod (wrap64 (a2)) 2001)))))) else (none))) else (none)) else (none))) else (some t340))))) = some r := h
  clear h
  replace H := Option.bind_eq_some_iff.mp H
  obtain ⟨t340, A50, H⟩ := H
  replace H : (if (wrap64 ((wrap64 (2 * (Int.tmod (wrap64 (a2)) 2001))) + 1)) = 0 then (none) else ((clock_Show.f a0_0 a0_1 (wrap64 ((wrap64 ((wrap64 ((Int.tmod (wrap64 (a1)) 1000000000) * 10000)) - (Int.tmod (wrap64 (a2)) 2001))) + (Int.tmod (wrap64 (a3)) (wrap64 ((wrap64 (2 * (Int.tmod (wrap64 (a2)) 2001))) + 1)))))).bind fun bt342 => (if bt342.2 = 0 then ((bound_Heard.f k 0 0 (Int.tmod (wrap64 (a2)) 2001) (Int.tmod (wrap64 (a1)) 1000000000) bt342.1).bind fun bt344 => (if t340 = true then (if bt344.2.2.2 = 0 then ((slotmeshref08_True.f bt344.1 bt344.2.1 bt344.2.2.1 (wrap64 ((wrap64 ((wrap64 ((Int.tmod (wrap64 (a1)) 1000000000) * 10000)) - (Int.tmod (wrap64 (a2)) 2001))) + (Int.tmod (wrap64 (a3)) (wrap64 ((wrap64 (2 * (Int.tmod (wrap64 (a2)) 2001))) + 1))))) bt342.1).bind fun t349 => (if t349 = true then ((bound_Width.f k bt344.1 bt344.2.1 bt344.2.2.1).bind fun t350 => (some (t350 == (wrap64 (2 * (Int.tmod (wrap64 (a2)) 2001)))))) else (none))) else (none)) else (none))) else (some t340)))) = some r := H
  have A5 := Aside0.mk A50
  clear A50
  by_cases c6 : (wrap64 ((wrap64 (2 * (Int.tmod (wrap64 (a2)) 2001))) + 1)) = 0
  · rw [if_pos c6] at H
    exact absurd H (by simp)
  · rw [if_neg c6] at H
    have c6b0 : ((wrap64 ((wrap64 (2 * (Int.tmod (wrap64 (a2)) 2001))) + 1)) == 0) = false := beq_eq_false_iff_ne.mpr c6
    have c6b1 : ((wrap64 ((wrap64 (2 * (Int.tmod (wrap64 (a2)) 2001))) + 1)) != 0) = true := bne_iff_ne.mpr c6
    replace H := Option.bind_eq_some_iff.mp H
    obtain ⟨⟨t342, t343⟩, A70, H⟩ := H
    replace H : (if t343 = 0 then ((bound_Heard.f k 0 0 (Int.tmod (wrap64 (a2)) 2001) (Int.tmod (wrap64 (a1)) 1000000000) t342).bind fun bt344 => (if t340 = true then (if bt344.2.2.2 = 0 then ((slotmeshref08_True.f bt344.1 bt344.2.1 bt344.2.2.1 (wrap64 ((wrap64 ((wrap64 ((Int.tmod (wrap64 (a1)) 1000000000) * 10000)) - (Int.tmod (wrap64 (a2)) 2001))) + (Int.tmod (wrap64 (a3)) (wrap64 ((wrap64 (2 * (Int.tmod (wrap64 (a2)) 2001))) + 1))))) t342).bind fun t349 => (if t349 = true then ((bound_Width.f k bt344.1 bt344.2.1 bt344.2.2.1).bind fun t350 => (some (t350 == (wrap64 (2 * (Int.tmod (wrap64 (a2)) 2001)))))) else (none))) else (none)) else (none))) else (some t340)) = some r := H
    have A7 := Aside0.mk A70
    clear A70
    by_cases c8 : t343 = 0
    · rw [if_pos c8] at H
      have c8b0 : (t343 == 0) = true := beq_iff_eq.mpr c8
      have c8b1 : (t343 != 0) = false := bne_eq_false_iff_eq.mpr c8
      clear c8
      replace H := Option.bind_eq_some_iff.mp H
      obtain ⟨⟨t344, t345, t346, t347⟩, A90, H⟩ := H
      replace H : (if t340 = true then (if t347 = 0 then ((slotmeshref08_True.f t344 t345 t346 (wrap64 ((wrap64 ((wrap64 ((Int.tmod (wrap64 (a1)) 1000000000) * 10000)) - (Int.tmod (wrap64 (a2)) 2001))) + (Int.tmod (wrap64 (a3)) (wrap64 ((wrap64 (2 * (Int.tmod (wrap64 (a2)) 2001))) + 1))))) t342).bind fun t349 => (if t349 = true then ((bound_Width.f k t344 t345 t346).bind fun t350 => (some (t350 == (wrap64 (2 * (Int.tmod (wrap64 (a2)) 2001)))))) else (none))) else (none)) else (none)) = some r := H
      have A9 := Aside0.mk A90
      clear A90
      by_cases c10 : t340 = true
      · subst c10
        have H1 : (if t347 = 0 then ((slotmeshref08_True.f t344 t345 t346 (wrap64 ((wrap64 ((wrap64 ((Int.tmod (wrap64 (a1)) 1000000000) * 10000)) - (Int.tmod (wrap64 (a2)) 2001))) + (Int.tmod (wrap64 (a3)) (wrap64 ((wrap64 (2 * (Int.tmod (wrap64 (a2)) 2001))) + 1))))) t342).bind fun t349 => (if t349 = true then ((bound_Width.f k t344 t345 t346).bind fun t350 => (some (t350 == (wrap64 (2 * (Int.tmod (wrap64 (a2)) 2001)))))) else (none))) else (none)) = some r := by rw [if_pos rfl] at H; exact H
        clear H
        have H := H1
        clear H1
        by_cases c11 : t347 = 0
        · rw [if_pos c11] at H
          have c11b0 : (t347 == 0) = true := beq_iff_eq.mpr c11
          have c11b1 : (t347 != 0) = false := bne_eq_false_iff_eq.mpr c11
          clear c11
          replace H := Option.bind_eq_some_iff.mp H
          obtain ⟨t349, A120, H⟩ := H
          replace H : (if t349 = true then ((bound_Width.f k t344 t345 t346).bind fun t350 => (some (t350 == (wrap64 (2 * (Int.tmod (wrap64 (a2)) 2001)))))) else (none)) = some r := H
          have A12 := Aside0.mk A120
          clear A120
          by_cases c13 : t349 = true
          · subst c13
            have H1 : ((bound_Width.f k t344 t345 t346).bind fun t350 => (some (t350 == (wrap64 (2 * (Int.tmod (wrap64 (a2)) 2001)))))) = some r := by rw [if_pos rfl] at H; exact H
            clear H
            have H := H1
            clear H1
            replace H := Option.bind_eq_some_iff.mp H
            obtain ⟨t350, A140, H⟩ := H
            replace H : (some (t350 == (wrap64 (2 * (Int.tmod (wrap64 (a2)) 2001))))) = some r := H
            have A14 := Aside0.mk A140
            clear A140
            obtain rfl := Option.some.inj H
            go_enter Try.func10, Try.ntmps10
            try go_wp2_with (first | ((with_reducible refine gate_dst (N := 4) rfl ?_); refine box_event ?hg (N := 4) ?hd (cs := #[.int .i64 a0_0, .int .i64 a0_1]) (t := 41) ?hr ?_; (case hd => rfl); (case hg => rfl); (case hr => first | (go_simp; done) | (go_simp; rfl)); intro gb339 hg w15 hbox hb; have n0_ := Aside0.mk (below_step (by repeat (first | (with_reducible first | exact HB.out | apply below_alloc | apply pw_below_drewN | apply below_drew1) | exact HB.out)) hb); have n1_ := Aside0.mk (hbox); have n2_ := Aside0.mk ((by rw [hg]; exact (below_size (by repeat (first | (with_reducible first | exact HB.out | apply below_alloc | apply pw_below_drewN | apply below_drew1) | exact HB.out))) : w.heap.size ≤ gb339)); have n3_ := Aside0.mk ((by rw [hg]; exact (below_size (by repeat (first | (with_reducible first | exact HB.out | apply below_alloc | apply pw_below_drewN | apply below_drew1) | exact HB.out))) : w.heap.size ≤ gb339)); clear HB; have HB := n0_; have BK339 := n1_; have GW339 := n2_; have GE339 := n3_; clear n0_ n1_ n2_ n3_; clear hb hbox hg) | ((with_reducible refine gate_callee (f := 11) rfl ?_); refine goesL_ (some 16) rfl rfl Try.func11 (by kernel_rfl) rfl #[] rfl (by (try simp only [List.map_toArray, List.map_cons, List.map_nil]); first | done | rfl | (simp only [List.length_drop, List.length_take]; rfl)) ?_; (with_reducible refine (slotmeshlaw08_head.calls  true _ A5.out).mono ?_); rintro e w16 ⟨rfl, hb⟩; refine ⟨_, rfl, ?_⟩; have n0_ := Aside0.mk (blk_below (g := gb339) (o := .cells #[.int .i64 a0_0, .int .i64 a0_1] 41 (0, 0)) (by (with_reducible repeat (first | refine blk_drewN ?_ _ | refine blk_drew ?_ | refine blk_alloc ?_ _)); exact BK339.out) hb); have n1_ := Aside0.mk (below_step (by repeat (first | (with_reducible first | exact HB.out | apply below_alloc | apply pw_below_drewN | apply below_drew1 | refine below_set ?_ GE339.out) | exact HB.out)) hb); clear BK339; clear HB; have BK339 := n0_; have HB := n1_; clear n0_ n1_; (try clear hb); (try clear hb2); (try clear hk); (try clear hi)) | ((with_reducible refine gate_dst (N := 10) rfl ?_); refine box_event ?hg (N := 10) ?hd (cs := #[.int .i64 0, .int .i64 0, .int .i64 0, .int .i64 0, .int .i64 0]) (t := 25) ?hr ?_; (case hd => rfl); (case hg => rfl); (case hr => first | (go_simp; done) | (go_simp; rfl)); intro gb341 hg w17 hbox hb; have n0_ := Aside0.mk (blk_below (g := gb339) (o := .cells #[.int .i64 a0_0, .int .i64 a0_1] 41 (0, 0)) (by (with_reducible repeat (first | refine blk_drewN ?_ _ | refine blk_drew ?_ | refine blk_alloc ?_ _)); exact BK339.out) hb); have n1_ := Aside0.mk (below_step (by repeat (first | (with_reducible first | exact HB.out | apply below_alloc | apply pw_below_drewN | apply below_drew1 | refine below_set ?_ GE339.out) | exact HB.out)) hb); have n2_ := Aside0.mk (hbox); have n3_ := Aside0.mk ((by rw [hg]; exact (below_size (by repeat (first | (with_reducible first | exact HB.out | apply below_alloc | apply pw_below_drewN | apply below_drew1 | refine below_set ?_ GE339.out) | exact HB.out))) : w.heap.size ≤ gb341)); have n4_ := Aside0.mk ((by rw [hg]; exact (below_size (by repeat (first | (with_reducible first | exact HB.out | apply below_alloc | apply pw_below_drewN | apply below_drew1 | refine below_set ?_ GE339.out) | exact HB.out))) : w.heap.size ≤ gb341)); have n5_ := Aside0.mk ((by rw [hg]; exact Nat.ne_of_lt (blk_lt (g := gb339) (o := .cells #[.int .i64 a0_0, .int .i64 a0_1] 41 (0, 0)) (by (with_reducible repeat (first | refine blk_drewN ?_ _ | refine blk_drew ?_ | refine blk_alloc ?_ _)); exact BK339.out)) : gb339 ≠ gb341)); have n6_ := Aside0.mk ((by rw [hg]; exact Nat.ne_of_gt (blk_lt (g := gb339) (o := .cells #[.int .i64 a0_0, .int .i64 a0_1] 41 (0, 0)) (by (with_reducible repeat (first | refine blk_drewN ?_ _ | refine blk_drew ?_ | refine blk_alloc ?_ _)); exact BK339.out)) : gb341 ≠ gb339)); clear BK339; clear HB; have BK339 := n0_; have HB := n1_; have BK341 := n2_; have GW341 := n3_; have GE341 := n4_; have NB339_341 := n5_; have NB341_339 := n6_; clear n0_ n1_ n2_ n3_ n4_ n5_ n6_; clear hb hbox hg; have hnb18 := NB341_339.out; have hnc18 := NB339_341.out; have hcz19_0 : w17.cell? ⟨gb341, 0, none⟩ = some (.int .i64 0) := (blk_cell BK341.out 0).trans rfl; have hcz19_1 : w17.cell? ⟨gb341, 1, none⟩ = some (.int .i64 0) := (blk_cell BK341.out 1).trans rfl; have hcz19_2 : w17.cell? ⟨gb341, 2, none⟩ = some (.int .i64 0) := (blk_cell BK341.out 2).trans rfl; have hcz19_3 : w17.cell? ⟨gb341, 3, none⟩ = some (.int .i64 0) := (blk_cell BK341.out 3).trans rfl; have hcz19_4 : w17.cell? ⟨gb341, 4, none⟩ = some (.int .i64 0) := (blk_cell BK341.out 4).trans rfl; have hfz19_0 := blk_frozen BK341.out 0; have hfz19_1 := blk_frozen BK341.out 1; have hfz19_2 := blk_frozen BK341.out 2; have hfz19_3 := blk_frozen BK341.out 3; have hfz19_4 := blk_frozen BK341.out 4))
            have n0_ : Aside0 ((((((w17.setCell ⟨gb341, 0, none⟩ (.int .i64 0)).setCell ⟨gb341, 1, none⟩ (.int .i64 0)).setCell ⟨gb341, 2, none⟩ (.int .i64 (Int.tmod (wrap64 (a2)) 2001))).setCell ⟨gb341, 3, none⟩ (.int .i64 (Int.tmod (wrap64 (a1)) 1000000000))).setCell ⟨gb341, 4, none⟩ (.int .i64 0)).heap[gb339]? = some (.cells #[.int .i64 a0_0, .int .i64 a0_1] 41 (0, 0))) := ⟨by (with_reducible repeat (first | refine blk_drewN ?_ _ | refine blk_drew ?_ | refine blk_alloc ?_ _)); refine blk_far ?_ NB339_341.out _; (with_reducible repeat (first | refine blk_drewN ?_ _ | refine blk_drew ?_ | refine blk_alloc ?_ _)); refine blk_far ?_ NB339_341.out _; (with_reducible repeat (first | refine blk_drewN ?_ _ | refine blk_drew ?_ | refine blk_alloc ?_ _)); refine blk_far ?_ NB339_341.out _; (with_reducible repeat (first | refine blk_drewN ?_ _ | refine blk_drew ?_ | refine blk_alloc ?_ _)); refine blk_far ?_ NB339_341.out _; (with_reducible repeat (first | refine blk_drewN ?_ _ | refine blk_drew ?_ | refine blk_alloc ?_ _)); refine blk_far ?_ NB339_341.out _; (with_reducible repeat (first | refine blk_drewN ?_ _ | refine blk_drew ?_ | refine blk_alloc ?_ _)); exact BK339.out⟩
            have n1_ : Aside0 ((((((w17.setCell ⟨gb341, 0, none⟩ (.int .i64 0)).setCell ⟨gb341, 1, none⟩ (.int .i64 0)).setCell ⟨gb341, 2, none⟩ (.int .i64 (Int.tmod (wrap64 (a2)) 2001))).setCell ⟨gb341, 3, none⟩ (.int .i64 (Int.tmod (wrap64 (a1)) 1000000000))).setCell ⟨gb341, 4, none⟩ (.int .i64 0)).heap[gb341]? = some (.cells #[.int .i64 0, .int .i64 0, .int .i64 (Int.tmod (wrap64 (a2)) 2001), .int .i64 (Int.tmod (wrap64 (a1)) 1000000000), .int .i64 0] 25 (0, 0))) := ⟨by (with_reducible repeat (first | refine blk_drewN ?_ _ | refine blk_drew ?_ | refine blk_alloc ?_ _)); refine blk_put (cs := #[.int .i64 0, .int .i64 0, .int .i64 (Int.tmod (wrap64 (a2)) 2001), .int .i64 (Int.tmod (wrap64 (a1)) 1000000000), .int .i64 0]) ?_ 4 _ rfl; (with_reducible repeat (first | refine blk_drewN ?_ _ | refine blk_drew ?_ | refine blk_alloc ?_ _)); refine blk_put (cs := #[.int .i64 0, .int .i64 0, .int .i64 (Int.tmod (wrap64 (a2)) 2001), .int .i64 0, .int .i64 0]) ?_ 3 _ rfl; (with_reducible repeat (first | refine blk_drewN ?_ _ | refine blk_drew ?_ | refine blk_alloc ?_ _)); refine blk_put (cs := #[.int .i64 0, .int .i64 0, .int .i64 0, .int .i64 0, .int .i64 0]) ?_ 2 _ rfl; (with_reducible repeat (first | refine blk_drewN ?_ _ | refine blk_drew ?_ | refine blk_alloc ?_ _)); refine blk_put (cs := #[.int .i64 0, .int .i64 0, .int .i64 0, .int .i64 0, .int .i64 0]) ?_ 1 _ rfl; (with_reducible repeat (first | refine blk_drewN ?_ _ | refine blk_drew ?_ | refine blk_alloc ?_ _)); refine blk_put (cs := #[.int .i64 0, .int .i64 0, .int .i64 0, .int .i64 0, .int .i64 0]) ?_ 0 _ rfl; (with_reducible repeat (first | refine blk_drewN ?_ _ | refine blk_drew ?_ | refine blk_alloc ?_ _)); exact BK341.out⟩
            have n2_ : Aside0 (Below w.heap.size w (((((w17.setCell ⟨gb341, 0, none⟩ (.int .i64 0)).setCell ⟨gb341, 1, none⟩ (.int .i64 0)).setCell ⟨gb341, 2, none⟩ (.int .i64 (Int.tmod (wrap64 (a2)) 2001))).setCell ⟨gb341, 3, none⟩ (.int .i64 (Int.tmod (wrap64 (a1)) 1000000000))).setCell ⟨gb341, 4, none⟩ (.int .i64 0))) := ⟨by repeat (first | (with_reducible first | exact HB.out | apply below_alloc | apply pw_below_drewN | apply below_drew1 | refine below_set ?_ GE339.out | refine below_set ?_ GE341.out) | exact HB.out)⟩
            (try clear BK339)
            (try clear BK341)
            (try clear HB)
            generalize (((((w17.setCell ⟨gb341, 0, none⟩ (.int .i64 0)).setCell ⟨gb341, 1, none⟩ (.int .i64 0)).setCell ⟨gb341, 2, none⟩ (.int .i64 (Int.tmod (wrap64 (a2)) 2001))).setCell ⟨gb341, 3, none⟩ (.int .i64 (Int.tmod (wrap64 (a1)) 1000000000))).setCell ⟨gb341, 4, none⟩ (.int .i64 0)) = w20 at n0_ n1_ n2_ ⊢
            have BK339 := n0_
            have BK341 := n1_
            have HB := n2_
            clear n0_ n1_ n2_
            have n0_ := Aside0.mk (blk_drew BK339.out)
            have n1_ := Aside0.mk (blk_drew BK341.out)
            have n2_ := Aside0.mk (below_drew1 HB.out)
            clear BK339
            clear BK341
            clear HB
            have BK339 := n0_
            have BK341 := n1_
            have HB := n2_
            clear n0_ n1_ n2_
            refine start_ (n := 15) (S := fun w' => w'.cell? ⟨gb341, 0, none⟩ = some (.int .i64 0) ∧ w'.cell? ⟨gb341, 1, none⟩ = some (.int .i64 0) ∧ w'.cell? ⟨gb341, 2, none⟩ = some (.int .i64 (Int.tmod (wrap64 (a2)) 2001)) ∧ w'.cell? ⟨gb341, 3, none⟩ = some (.int .i64 (Int.tmod (wrap64 (a1)) 1000000000)) ∧ w'.cell? ⟨gb341, 4, none⟩ = some (.int .i64 0)) (ds := []) #[false, false, false, false, false, false, false, false, false, false, false, false, false, false, false] (by kernel_rfl) rfl rfl ⟨(blk_cell BK341.out 0).trans rfl, (blk_cell BK341.out 1).trans rfl, (blk_cell BK341.out 2).trans rfl, (blk_cell BK341.out 3).trans rfl, (blk_cell BK341.out 4).trans rfl⟩ (fun hHeld => ?_); refine with_tabW slotmeshlaw08_BoundHearing.tab3 slotmeshlaw08_BoundHearing.bits3 (fun HT_ HW_ => ?_)
            generalize w20.drew = w21 at BK339 BK341 HB hHeld ⊢
            refine pure_ (i := 0) (N := some 24) (v := ?_) (a' := ?_) #[true, false, false, false, false, false, false, false, false, false, false, false, false, false, false] rfl rfl (any_of HT_.out (by kernel_rfl)) (fun _ _ _ h => h) (Or.inl ⟨by rfl, ?_⟩) ?_ ?_
            rotate_left
            · intro w'
              go_simp
              with_reducible rfl
            rotate_left
            · simp only [Act.put, List.setIfInBounds_toArray, List.set_cons_zero, List.set_cons_succ, i64_w, i32_w]
              rfl
            refine pure_ (i := 3) (N := some 27) (v := ?_) (a' := ?_) #[true, false, false, true, false, false, false, false, false, false, false, false, false, false, false] rfl rfl (any_of HT_.out (by kernel_rfl)) (fun _ _ _ h => h) (Or.inl ⟨by rfl, ?_⟩) ?_ ?_
            rotate_left
            · intro w'
              go_simp
              with_reducible rfl
            rotate_left
            · simp only [Act.put, List.setIfInBounds_toArray, List.set_cons_zero, List.set_cons_succ, i64_w, i32_w]
              rfl
            refine pure_ (i := 6) (N := some 30) (v := ?_) (a' := ?_) #[true, false, false, true, false, false, true, false, false, false, false, false, false, false, false] rfl rfl (any_of HT_.out (by kernel_rfl)) (fun _ _ _ h => h) (Or.inl ⟨by rfl, ?_⟩) ?_ ?_
            rotate_left
            · intro w'
              go_simp
              with_reducible rfl
            rotate_left
            · simp only [Act.put, List.setIfInBounds_toArray, List.set_cons_zero, List.set_cons_succ, i64_w, i32_w]
              rfl
            refine pure_ (i := 7) (N := some 31) (v := ?_) (a' := ?_) #[true, false, false, true, false, false, true, true, false, false, false, false, false, false, false] rfl rfl (any_of HT_.out (by kernel_rfl)) (fun _ _ _ h => h) (Or.inl ⟨by rfl, ?_⟩) ?_ ?_
            rotate_left
            · intro w'
              go_simp
              with_reducible rfl
            rotate_left
            · simp only [Act.put, List.setIfInBounds_toArray, List.set_cons_zero, List.set_cons_succ, i64_w, i32_w]
              rfl
            refine pure_ (i := 8) (N := some 32) (v := ?_) (a' := ?_) #[true, false, false, true, false, false, true, true, true, false, false, false, false, false, false] rfl rfl (any_of HT_.out (by kernel_rfl)) (fun _ _ _ h => h) (Or.inl ⟨by rfl, ?_⟩) ?_ ?_
            rotate_left
            · intro w'
              go_simp
              with_reducible rfl
            rotate_left
            · simp only [Act.put, List.setIfInBounds_toArray, List.set_cons_zero, List.set_cons_succ, i64_w, i32_w]
              rfl
            refine take_ (i := 1) (N := some 25) (v := ?_) (a' := ?_) #[true, true, false, true, false, false, true, true, true, false, false, false, false, false, false] rfl rfl (take_ofW HT_.out HW_.out (by kernel_rfl)) (fun _ _ _ h => h) (Or.inl ⟨by rfl, ?_⟩) hHeld ?_ ?_
            rotate_left
            · rintro w' ⟨s0, s1, s2, s3, s4⟩
              go_simp
              with_reducible rfl
            rotate_left
            · simp only [Act.put, List.setIfInBounds_toArray, List.set_cons_zero, List.set_cons_succ, i64_w, i32_w]
              rfl
            refine pure_ (i := 2) (N := some 26) (v := ?_) (a' := ?_) #[true, true, true, true, false, false, true, true, true, false, false, false, false, false, false] rfl rfl (any_of HT_.out (by kernel_rfl)) (fun _ _ _ h => h) (Or.inl ⟨by rfl, ?_⟩) ?_ ?_
            rotate_left
            · intro w'
              go_simp
              with_reducible rfl
            rotate_left
            · simp only [Act.put, List.setIfInBounds_toArray, List.set_cons_zero, List.set_cons_succ, i64_w, i32_w]
              rfl
            refine take_ (i := 4) (N := some 28) (v := ?_) (a' := ?_) #[true, true, true, true, true, false, true, true, true, false, false, false, false, false, false] rfl rfl (take_ofW HT_.out HW_.out (by kernel_rfl)) (fun _ _ _ h => h) (Or.inl ⟨by rfl, ?_⟩) hHeld ?_ ?_
            rotate_left
            · rintro w' ⟨s0, s1, s2, s3, s4⟩
              go_simp
              with_reducible rfl
            rotate_left
            · simp only [Act.put, List.setIfInBounds_toArray, List.set_cons_zero, List.set_cons_succ, i64_w, i32_w]
              rfl
            refine pure_ (i := 5) (N := some 29) (v := ?_) (a' := ?_) #[true, true, true, true, true, true, true, true, true, false, false, false, false, false, false] rfl rfl (any_of HT_.out (by kernel_rfl)) (fun _ _ _ h => h) (Or.inl ⟨by rfl, ?_⟩) ?_ ?_
            rotate_left
            · intro w'
              go_simp
              with_reducible rfl
            rotate_left
            · simp only [Act.put, List.setIfInBounds_toArray, List.set_cons_zero, List.set_cons_succ, i64_w, i32_w]
              rfl
            refine take_ (i := 9) (N := some 33) (v := ?_) (a' := ?_) #[true, true, true, true, true, true, true, true, true, true, false, false, false, false, false] rfl rfl (take_ofW HT_.out HW_.out (by kernel_rfl)) (fun _ _ _ h => h) (Or.inl ⟨by rfl, ?_⟩) hHeld ?_ ?_
            rotate_left
            · rintro w' ⟨s0, s1, s2, s3, s4⟩
              go_simp
              with_reducible rfl
            rotate_left
            · simp only [Act.put, List.setIfInBounds_toArray, List.set_cons_zero, List.set_cons_succ, i64_w, i32_w]
              rfl
            refine pure_ (i := 10) (N := some 34) (v := ?_) (a' := ?_) #[true, true, true, true, true, true, true, true, true, true, true, false, false, false, false] rfl rfl (any_of HT_.out (by kernel_rfl)) (fun _ _ _ h => h) (Or.inl ⟨by rfl, ?_⟩) ?_ ?_
            rotate_left
            · intro w'
              go_simp
              with_reducible rfl
            rotate_left
            · simp only [Act.put, List.setIfInBounds_toArray, List.set_cons_zero, List.set_cons_succ, i64_w, i32_w]
              rfl
            refine pure_ (i := 11) (N := some 35) (v := ?_) (a' := ?_) #[true, true, true, true, true, true, true, true, true, true, true, true, false, false, false] rfl rfl (any_of HT_.out (by kernel_rfl)) (fun _ _ _ h => h) (Or.inl ⟨by rfl, ?_⟩) ?_ ?_
            rotate_left
            · intro w'
              go_simp
              with_reducible rfl
            rotate_left
            · simp only [Act.put, List.setIfInBounds_toArray, List.set_cons_zero, List.set_cons_succ, i64_w, i32_w]
              rfl
            refine pure_ (i := 12) (N := some 36) (v := ?_) (a' := ?_) #[true, true, true, true, true, true, true, true, true, true, true, true, true, false, false] rfl rfl (any_of HT_.out (by kernel_rfl)) (fun _ _ _ h => h) (Or.inl ⟨by rfl, ?_⟩) ?_ ?_
            rotate_left
            · intro w'
              go_simp
              with_reducible rfl
            rotate_left
            · simp only [Act.put, List.setIfInBounds_toArray, List.set_cons_zero, List.set_cons_succ, i64_w, i32_w]
              rfl
            refine pure_ (i := 13) (N := some 37) (v := ?_) (a' := ?_) #[true, true, true, true, true, true, true, true, true, true, true, true, true, true, false] rfl rfl (any_of HT_.out (by kernel_rfl)) (fun _ _ _ h => h) (Or.inl ⟨by rfl, ?_⟩) ?_ ?_
            rotate_left
            · intro w'
              go_simp
              with_reducible rfl
            rotate_left
            · simp only [Act.put, List.setIfInBounds_toArray, List.set_cons_zero, List.set_cons_succ, i64_w, i32_w]
              rfl
            refine pure_ (i := 14) (N := some 11) (v := ?_) (a' := ?_) #[true, true, true, true, true, true, true, true, true, true, true, true, true, true, true] rfl rfl (any_of HT_.out (by kernel_rfl)) (fun _ _ _ h => h) (Or.inl ⟨by rfl, ?_⟩) ?_ ?_
            rotate_left
            · intro w'
              go_simp
              with_reducible rfl
            rotate_left
            · simp only [Act.put, List.setIfInBounds_toArray, List.set_cons_zero, List.set_cons_succ, i64_w, i32_w]
              rfl
            refine done_ (done_of HT_.out (by kernel_rfl)) ?_
            have hcz22_0 : w21.cell? ⟨gb339, 0, none⟩ = some (.int .i64 a0_0) := (blk_cell BK339.out 0).trans rfl
            have hcz22_1 : w21.cell? ⟨gb339, 1, none⟩ = some (.int .i64 a0_1) := (blk_cell BK339.out 1).trans rfl
            have hfz22_0 := blk_frozen BK339.out 0
            have hfz22_1 := blk_frozen BK339.out 1
            try go_wp2_with (first | ((with_reducible refine gate_callee (f := 25) rfl ?_); refine goesL_ (some 41) rfl rfl Try.func25 (by kernel_rfl) rfl #[.agg #[.int .i64 a0_0, .int .i64 a0_1], .int .i64 (wrap64 ((wrap64 ((wrap64 ((Int.tmod (wrap64 (a1)) 1000000000) * 10000)) - (Int.tmod (wrap64 (a2)) 2001))) + (Int.tmod (wrap64 (a3)) (wrap64 ((wrap64 (2 * (Int.tmod (wrap64 (a2)) 2001))) + 1)))))] rfl (by (try simp only [List.map_toArray, List.map_cons, List.map_nil]); first | done | rfl | (simp only [List.length_drop, List.length_take]; rfl)) ?_; (with_reducible refine (clock_Show.calls a0_0 a0_1 (wrap64 ((wrap64 ((wrap64 ((Int.tmod (wrap64 (a1)) 1000000000) * 10000)) - (Int.tmod (wrap64 (a2)) 2001))) + (Int.tmod (wrap64 (a3)) (wrap64 ((wrap64 (2 * (Int.tmod (wrap64 (a2)) 2001))) + 1))))) t342 t343 _ A7.out).mono ?_); rintro e w23 ⟨rfl, hb⟩; refine ⟨_, rfl, ?_⟩; have n0_ := Aside0.mk (blk_below (g := gb339) (o := .cells #[.int .i64 a0_0, .int .i64 a0_1] 41 (0, 0)) (by (with_reducible repeat (first | refine blk_drewN ?_ _ | refine blk_drew ?_ | refine blk_alloc ?_ _)); exact BK339.out) hb); have n1_ := Aside0.mk (blk_below (g := gb341) (o := .cells #[.int .i64 0, .int .i64 0, .int .i64 (Int.tmod (wrap64 (a2)) 2001), .int .i64 (Int.tmod (wrap64 (a1)) 1000000000), .int .i64 0] 25 (0, 0)) (by (with_reducible repeat (first | refine blk_drewN ?_ _ | refine blk_drew ?_ | refine blk_alloc ?_ _)); exact BK341.out) hb); have n2_ := Aside0.mk (below_step (by repeat (first | (with_reducible first | exact HB.out | apply below_alloc | apply pw_below_drewN | apply below_drew1 | refine below_set ?_ GE339.out | refine below_set ?_ GE341.out) | exact HB.out)) hb); clear BK339; clear BK341; clear HB; have BK339 := n0_; have BK341 := n1_; have HB := n2_; clear n0_ n1_ n2_; (try clear hb); (try clear hb2); (try clear hk); (try clear hi); have hcz24_0 : w23.cell? ⟨gb341, 0, none⟩ = some (.int .i64 0) := (blk_cell BK341.out 0).trans rfl; have hcz24_1 : w23.cell? ⟨gb341, 1, none⟩ = some (.int .i64 0) := (blk_cell BK341.out 1).trans rfl; have hcz24_2 : w23.cell? ⟨gb341, 2, none⟩ = some (.int .i64 (Int.tmod (wrap64 (a2)) 2001)) := (blk_cell BK341.out 2).trans rfl; have hcz24_3 : w23.cell? ⟨gb341, 3, none⟩ = some (.int .i64 (Int.tmod (wrap64 (a1)) 1000000000)) := (blk_cell BK341.out 3).trans rfl; have hcz24_4 : w23.cell? ⟨gb341, 4, none⟩ = some (.int .i64 0) := (blk_cell BK341.out 4).trans rfl; have hfz24_0 := blk_frozen BK341.out 0; have hfz24_1 := blk_frozen BK341.out 1; have hfz24_2 := blk_frozen BK341.out 2; have hfz24_3 := blk_frozen BK341.out 3; have hfz24_4 := blk_frozen BK341.out 4) | ((with_reducible refine gate_callee (f := 16) rfl ?_); refine goesL_ (some 51) rfl rfl Try.func16 (by kernel_rfl) rfl #[.agg #[.int .i64 0, .int .i64 0, .int .i64 (Int.tmod (wrap64 (a2)) 2001), .int .i64 (Int.tmod (wrap64 (a1)) 1000000000), .int .i64 t342]] rfl (by (try simp only [List.map_toArray, List.map_cons, List.map_nil]); first | done | rfl | (simp only [List.length_drop, List.length_take]; rfl)) ?_; (with_reducible refine (bound_Heard.calls k 0 0 (Int.tmod (wrap64 (a2)) 2001) (Int.tmod (wrap64 (a1)) 1000000000) t342 t344 t345 t346 t347 _ A9.out).mono ?_); rintro e w25 ⟨rfl, hb⟩; refine ⟨_, rfl, ?_⟩; have n0_ := Aside0.mk (blk_below (g := gb339) (o := .cells #[.int .i64 a0_0, .int .i64 a0_1] 41 (0, 0)) (by (with_reducible repeat (first | refine blk_drewN ?_ _ | refine blk_drew ?_ | refine blk_alloc ?_ _)); refine blk_far ?_ NB339_341.out _; (with_reducible repeat (first | refine blk_drewN ?_ _ | refine blk_drew ?_ | refine blk_alloc ?_ _)); exact BK339.out) hb); have n1_ := Aside0.mk (blk_below (g := gb341) (o := .cells #[.int .i64 0, .int .i64 0, .int .i64 (Int.tmod (wrap64 (a2)) 2001), .int .i64 (Int.tmod (wrap64 (a1)) 1000000000), .int .i64 t342] 25 (0, 0)) (by (with_reducible repeat (first | refine blk_drewN ?_ _ | refine blk_drew ?_ | refine blk_alloc ?_ _)); refine blk_put (cs := #[.int .i64 0, .int .i64 0, .int .i64 (Int.tmod (wrap64 (a2)) 2001), .int .i64 (Int.tmod (wrap64 (a1)) 1000000000), .int .i64 0]) ?_ 4 _ rfl; (with_reducible repeat (first | refine blk_drewN ?_ _ | refine blk_drew ?_ | refine blk_alloc ?_ _)); exact BK341.out) hb); have n2_ := Aside0.mk (below_step (by repeat (first | (with_reducible first | exact HB.out | apply below_alloc | apply pw_below_drewN | apply below_drew1 | refine below_set ?_ GE339.out | refine below_set ?_ GE341.out) | exact HB.out)) hb); clear BK339; clear BK341; clear HB; have BK339 := n0_; have BK341 := n1_; have HB := n2_; clear n0_ n1_ n2_; (try clear hb); (try clear hb2); (try clear hk); (try clear hi)) | ((with_reducible refine gate_dst (N := 14) rfl ?_); refine box_event ?hg (N := 14) ?hd (cs := #[.int .i64 0, .int .i64 0, .int .i64 0]) (t := 23) ?hr ?_; (case hd => rfl); (case hg => rfl); (case hr => first | (go_simp; done) | (go_simp; rfl)); intro gb348 hg w26 hbox hb; have n0_ := Aside0.mk (blk_below (g := gb339) (o := .cells #[.int .i64 a0_0, .int .i64 a0_1] 41 (0, 0)) (by (with_reducible repeat (first | refine blk_drewN ?_ _ | refine blk_drew ?_ | refine blk_alloc ?_ _)); exact BK339.out) hb); have n1_ := Aside0.mk (blk_below (g := gb341) (o := .cells #[.int .i64 0, .int .i64 0, .int .i64 (Int.tmod (wrap64 (a2)) 2001), .int .i64 (Int.tmod (wrap64 (a1)) 1000000000), .int .i64 t342] 25 (0, 0)) (by (with_reducible repeat (first | refine blk_drewN ?_ _ | refine blk_drew ?_ | refine blk_alloc ?_ _)); exact BK341.out) hb); have n2_ := Aside0.mk (below_step (by repeat (first | (with_reducible first | exact HB.out | apply below_alloc | apply pw_below_drewN | apply below_drew1 | refine below_set ?_ GE339.out | refine below_set ?_ GE341.out) | exact HB.out)) hb); have n3_ := Aside0.mk (hbox); have n4_ := Aside0.mk ((by rw [hg]; exact (below_size (by repeat (first | (with_reducible first | exact HB.out | apply below_alloc | apply pw_below_drewN | apply below_drew1 | refine below_set ?_ GE339.out | refine below_set ?_ GE341.out) | exact HB.out))) : w.heap.size ≤ gb348)); have n5_ := Aside0.mk ((by rw [hg]; exact (below_size (by repeat (first | (with_reducible first | exact HB.out | apply below_alloc | apply pw_below_drewN | apply below_drew1 | refine below_set ?_ GE339.out | refine below_set ?_ GE341.out) | exact HB.out))) : w.heap.size ≤ gb348)); have n6_ := Aside0.mk ((by rw [hg]; exact Nat.ne_of_lt (blk_lt (g := gb339) (o := .cells #[.int .i64 a0_0, .int .i64 a0_1] 41 (0, 0)) (by (with_reducible repeat (first | refine blk_drewN ?_ _ | refine blk_drew ?_ | refine blk_alloc ?_ _)); exact BK339.out)) : gb339 ≠ gb348)); have n7_ := Aside0.mk ((by rw [hg]; exact Nat.ne_of_gt (blk_lt (g := gb339) (o := .cells #[.int .i64 a0_0, .int .i64 a0_1] 41 (0, 0)) (by (with_reducible repeat (first | refine blk_drewN ?_ _ | refine blk_drew ?_ | refine blk_alloc ?_ _)); exact BK339.out)) : gb348 ≠ gb339)); have n8_ := Aside0.mk ((by rw [hg]; exact Nat.ne_of_lt (blk_lt (g := gb341) (o := .cells #[.int .i64 0, .int .i64 0, .int .i64 (Int.tmod (wrap64 (a2)) 2001), .int .i64 (Int.tmod (wrap64 (a1)) 1000000000), .int .i64 t342] 25 (0, 0)) (by (with_reducible repeat (first | refine blk_drewN ?_ _ | refine blk_drew ?_ | refine blk_alloc ?_ _)); exact BK341.out)) : gb341 ≠ gb348)); have n9_ := Aside0.mk ((by rw [hg]; exact Nat.ne_of_gt (blk_lt (g := gb341) (o := .cells #[.int .i64 0, .int .i64 0, .int .i64 (Int.tmod (wrap64 (a2)) 2001), .int .i64 (Int.tmod (wrap64 (a1)) 1000000000), .int .i64 t342] 25 (0, 0)) (by (with_reducible repeat (first | refine blk_drewN ?_ _ | refine blk_drew ?_ | refine blk_alloc ?_ _)); exact BK341.out)) : gb348 ≠ gb341)); clear BK339; clear BK341; clear HB; have BK339 := n0_; have BK341 := n1_; have HB := n2_; have BK348 := n3_; have GW348 := n4_; have GE348 := n5_; have NB339_348 := n6_; have NB348_339 := n7_; have NB341_348 := n8_; have NB348_341 := n9_; clear n0_ n1_ n2_ n3_ n4_ n5_ n6_ n7_ n8_ n9_; clear hb hbox hg; have hnb27 := NB348_339.out; have hnc27 := NB339_348.out; have hnb28 := NB348_341.out; have hnc28 := NB341_348.out; have hcz29_0 : w26.cell? ⟨gb348, 0, none⟩ = some (.int .i64 0) := (blk_cell BK348.out 0).trans rfl; have hcz29_1 : w26.cell? ⟨gb348, 1, none⟩ = some (.int .i64 0) := (blk_cell BK348.out 1).trans rfl; have hcz29_2 : w26.cell? ⟨gb348, 2, none⟩ = some (.int .i64 0) := (blk_cell BK348.out 2).trans rfl; have hfz29_0 := blk_frozen BK348.out 0; have hfz29_1 := blk_frozen BK348.out 1; have hfz29_2 := blk_frozen BK348.out 2))
            have n0_ : Aside0 ((((w26.setCell ⟨gb348, 0, none⟩ (.int .i64 t344)).setCell ⟨gb348, 1, none⟩ (.int .i64 t345)).setCell ⟨gb348, 2, none⟩ (.int .i64 t346)).heap[gb339]? = some (.cells #[.int .i64 a0_0, .int .i64 a0_1] 41 (0, 0))) := ⟨by (with_reducible repeat (first | refine blk_drewN ?_ _ | refine blk_drew ?_ | refine blk_alloc ?_ _)); refine blk_far ?_ NB339_348.out _; (with_reducible repeat (first | refine blk_drewN ?_ _ | refine blk_drew ?_ | refine blk_alloc ?_ _)); refine blk_far ?_ NB339_348.out _; (with_reducible repeat (first | refine blk_drewN ?_ _ | refine blk_drew ?_ | refine blk_alloc ?_ _)); refine blk_far ?_ NB339_348.out _; (with_reducible repeat (first | refine blk_drewN ?_ _ | refine blk_drew ?_ | refine blk_alloc ?_ _)); exact BK339.out⟩
            have n1_ : Aside0 ((((w26.setCell ⟨gb348, 0, none⟩ (.int .i64 t344)).setCell ⟨gb348, 1, none⟩ (.int .i64 t345)).setCell ⟨gb348, 2, none⟩ (.int .i64 t346)).heap[gb341]? = some (.cells #[.int .i64 0, .int .i64 0, .int .i64 (Int.tmod (wrap64 (a2)) 2001), .int .i64 (Int.tmod (wrap64 (a1)) 1000000000), .int .i64 t342] 25 (0, 0))) := ⟨by (with_reducible repeat (first | refine blk_drewN ?_ _ | refine blk_drew ?_ | refine blk_alloc ?_ _)); refine blk_far ?_ NB341_348.out _; (with_reducible repeat (first | refine blk_drewN ?_ _ | refine blk_drew ?_ | refine blk_alloc ?_ _)); refine blk_far ?_ NB341_348.out _; (with_reducible repeat (first | refine blk_drewN ?_ _ | refine blk_drew ?_ | refine blk_alloc ?_ _)); refine blk_far ?_ NB341_348.out _; (with_reducible repeat (first | refine blk_drewN ?_ _ | refine blk_drew ?_ | refine blk_alloc ?_ _)); exact BK341.out⟩
            have n2_ : Aside0 ((((w26.setCell ⟨gb348, 0, none⟩ (.int .i64 t344)).setCell ⟨gb348, 1, none⟩ (.int .i64 t345)).setCell ⟨gb348, 2, none⟩ (.int .i64 t346)).heap[gb348]? = some (.cells #[.int .i64 t344, .int .i64 t345, .int .i64 t346] 23 (0, 0))) := ⟨by (with_reducible repeat (first | refine blk_drewN ?_ _ | refine blk_drew ?_ | refine blk_alloc ?_ _)); refine blk_put (cs := #[.int .i64 t344, .int .i64 t345, .int .i64 0]) ?_ 2 _ rfl; (with_reducible repeat (first | refine blk_drewN ?_ _ | refine blk_drew ?_ | refine blk_alloc ?_ _)); refine blk_put (cs := #[.int .i64 t344, .int .i64 0, .int .i64 0]) ?_ 1 _ rfl; (with_reducible repeat (first | refine blk_drewN ?_ _ | refine blk_drew ?_ | refine blk_alloc ?_ _)); refine blk_put (cs := #[.int .i64 0, .int .i64 0, .int .i64 0]) ?_ 0 _ rfl; (with_reducible repeat (first | refine blk_drewN ?_ _ | refine blk_drew ?_ | refine blk_alloc ?_ _)); exact BK348.out⟩
            have n3_ : Aside0 (Below w.heap.size w (((w26.setCell ⟨gb348, 0, none⟩ (.int .i64 t344)).setCell ⟨gb348, 1, none⟩ (.int .i64 t345)).setCell ⟨gb348, 2, none⟩ (.int .i64 t346))) := ⟨by repeat (first | (with_reducible first | exact HB.out | apply below_alloc | apply pw_below_drewN | apply below_drew1 | refine below_set ?_ GE339.out | refine below_set ?_ GE341.out | refine below_set ?_ GE348.out) | exact HB.out)⟩
            (try clear BK339)
            (try clear BK341)
            (try clear BK348)
            (try clear HB)
            generalize (((w26.setCell ⟨gb348, 0, none⟩ (.int .i64 t344)).setCell ⟨gb348, 1, none⟩ (.int .i64 t345)).setCell ⟨gb348, 2, none⟩ (.int .i64 t346)) = w30 at n0_ n1_ n2_ n3_ ⊢
            have BK339 := n0_
            have BK341 := n1_
            have BK348 := n2_
            have HB := n3_
            clear n0_ n1_ n2_ n3_
            have n0_ := Aside0.mk (blk_drew BK339.out)
            have n1_ := Aside0.mk (blk_drew BK341.out)
            have n2_ := Aside0.mk (blk_drew BK348.out)
            have n3_ := Aside0.mk (below_drew1 HB.out)
            clear BK339
            clear BK341
            clear BK348
            clear HB
            have BK339 := n0_
            have BK341 := n1_
            have BK348 := n2_
            have HB := n3_
            clear n0_ n1_ n2_ n3_
            refine start_ (n := 20) (S := fun w' => w'.cell? ⟨gb348, 0, none⟩ = some (.int .i64 t344) ∧ w'.cell? ⟨gb348, 1, none⟩ = some (.int .i64 t345) ∧ w'.cell? ⟨gb348, 2, none⟩ = some (.int .i64 t346) ∧ w'.cell? ⟨gb341, 0, none⟩ = some (.int .i64 0) ∧ w'.cell? ⟨gb341, 1, none⟩ = some (.int .i64 0) ∧ w'.cell? ⟨gb341, 2, none⟩ = some (.int .i64 (Int.tmod (wrap64 (a2)) 2001)) ∧ w'.cell? ⟨gb341, 3, none⟩ = some (.int .i64 (Int.tmod (wrap64 (a1)) 1000000000)) ∧ w'.cell? ⟨gb341, 4, none⟩ = some (.int .i64 t342)) (ds := []) #[false, false, false, false, false, false, false, false, false, false, false, false, false, false, false, false, false, false, false, false] (by kernel_rfl) rfl rfl ⟨(blk_cell BK348.out 0).trans rfl, (blk_cell BK348.out 1).trans rfl, (blk_cell BK348.out 2).trans rfl, (blk_cell BK341.out 0).trans rfl, (blk_cell BK341.out 1).trans rfl, (blk_cell BK341.out 2).trans rfl, (blk_cell BK341.out 3).trans rfl, (blk_cell BK341.out 4).trans rfl⟩ (fun hHeld => ?_); refine with_tabW slotmeshlaw08_BoundHearing.tab9 slotmeshlaw08_BoundHearing.bits9 (fun HT_ HW_ => ?_)
            generalize w30.drew = w31 at BK339 BK341 BK348 HB hHeld ⊢
            refine pure_ (i := 0) (N := some 54) (v := ?_) (a' := ?_) #[true, false, false, false, false, false, false, false, false, false, false, false, false, false, false, false, false, false, false, false] rfl rfl (any_of HT_.out (by kernel_rfl)) (fun _ _ _ h => h) (Or.inl ⟨by rfl, ?_⟩) ?_ ?_
            rotate_left
            · intro w'
              go_simp
              with_reducible rfl
            rotate_left
            · simp only [Act.put, List.setIfInBounds_toArray, List.set_cons_zero, List.set_cons_succ, i64_w, i32_w]
              rfl
            refine pure_ (i := 1) (N := some 55) (v := ?_) (a' := ?_) #[true, true, false, false, false, false, false, false, false, false, false, false, false, false, false, false, false, false, false, false] rfl rfl (any_of HT_.out (by kernel_rfl)) (fun _ _ _ h => h) (Or.inl ⟨by rfl, ?_⟩) ?_ ?_
            rotate_left
            · intro w'
              go_simp
              with_reducible rfl
            rotate_left
            · simp only [Act.put, List.setIfInBounds_toArray, List.set_cons_zero, List.set_cons_succ, i64_w, i32_w]
              rfl
            refine pure_ (i := 2) (N := some 56) (v := ?_) (a' := ?_) #[true, true, true, false, false, false, false, false, false, false, false, false, false, false, false, false, false, false, false, false] rfl rfl (any_of HT_.out (by kernel_rfl)) (fun _ _ _ h => h) (Or.inl ⟨by rfl, ?_⟩) ?_ ?_
            rotate_left
            · intro w'
              go_simp
              with_reducible rfl
            rotate_left
            · simp only [Act.put, List.setIfInBounds_toArray, List.set_cons_zero, List.set_cons_succ, i64_w, i32_w]
              rfl
            refine pure_ (i := 3) (N := some 57) (v := ?_) (a' := ?_) #[true, true, true, true, false, false, false, false, false, false, false, false, false, false, false, false, false, false, false, false] rfl rfl (any_of HT_.out (by kernel_rfl)) (fun _ _ _ h => h) (Or.inl ⟨by rfl, ?_⟩) ?_ ?_
            rotate_left
            · intro w'
              go_simp
              with_reducible rfl
            rotate_left
            · simp only [Act.put, List.setIfInBounds_toArray, List.set_cons_zero, List.set_cons_succ, i64_w, i32_w]
              rfl
            refine pure_ (i := 4) (N := some 58) (v := ?_) (a' := ?_) #[true, true, true, true, true, false, false, false, false, false, false, false, false, false, false, false, false, false, false, false] rfl rfl (any_of HT_.out (by kernel_rfl)) (fun _ _ _ h => h) (Or.inl ⟨by rfl, ?_⟩) ?_ ?_
            rotate_left
            · intro w'
              go_simp
              with_reducible rfl
            rotate_left
            · simp only [Act.put, List.setIfInBounds_toArray, List.set_cons_zero, List.set_cons_succ, i64_w, i32_w]
              rfl
            refine pure_ (i := 5) (N := some 59) (v := ?_) (a' := ?_) #[true, true, true, true, true, true, false, false, false, false, false, false, false, false, false, false, false, false, false, false] rfl rfl (any_of HT_.out (by kernel_rfl)) (fun _ _ _ h => h) (Or.inl ⟨by rfl, ?_⟩) ?_ ?_
            rotate_left
            · intro w'
              go_simp
              with_reducible rfl
            rotate_left
            · simp only [Act.put, List.setIfInBounds_toArray, List.set_cons_zero, List.set_cons_succ, i64_w, i32_w]
              rfl
            refine pure_ (i := 7) (N := some 61) (v := ?_) (a' := ?_) #[true, true, true, true, true, true, false, true, false, false, false, false, false, false, false, false, false, false, false, false] rfl rfl (any_of HT_.out (by kernel_rfl)) (fun _ _ _ h => h) (Or.inl ⟨by rfl, ?_⟩) ?_ ?_
            rotate_left
            · intro w'
              go_simp
              with_reducible rfl
            rotate_left
            · simp only [Act.put, List.setIfInBounds_toArray, List.set_cons_zero, List.set_cons_succ, i64_w, i32_w]
              rfl
            refine pure_ (i := 8) (N := some 62) (v := ?_) (a' := ?_) #[true, true, true, true, true, true, false, true, true, false, false, false, false, false, false, false, false, false, false, false] rfl rfl (any_of HT_.out (by kernel_rfl)) (fun _ _ _ h => h) (Or.inl ⟨by rfl, ?_⟩) ?_ ?_
            rotate_left
            · intro w'
              go_simp
              with_reducible rfl
            rotate_left
            · simp only [Act.put, List.setIfInBounds_toArray, List.set_cons_zero, List.set_cons_succ, i64_w, i32_w]
              rfl
            refine take_ (i := 6) (N := some 60) (v := ?_) (a' := ?_) #[true, true, true, true, true, true, true, true, true, false, false, false, false, false, false, false, false, false, false, false] rfl rfl (take_ofW HT_.out HW_.out (by kernel_rfl)) (fun _ _ _ h => h) (Or.inl ⟨by rfl, ?_⟩) hHeld ?_ ?_
            rotate_left
            · rintro w' ⟨s0, s1, s2, s3, s4, s5, s6, s7⟩
              go_simp
              with_reducible rfl
            rotate_left
            · simp only [Act.put, List.setIfInBounds_toArray, List.set_cons_zero, List.set_cons_succ, i64_w, i32_w]
              rfl
            refine one_ (i := 9) (N := some 63) #[true, true, true, true, true, true, true, true, true, true, false, false, false, false, false, false, false, false, false, false] rfl rfl (one_of HT_.out (by kernel_rfl)) (by decide) (fun K hK => ?_)
            refine goes_ Try.func26 (by kernel_rfl) rfl #[.agg #[.int .i64 t344, .int .i64 t345, .int .i64 t346], .int .i64 (wrap64 ((wrap64 ((wrap64 ((Int.tmod (wrap64 (a1)) 1000000000) * 10000)) - (Int.tmod (wrap64 (a2)) 2001))) + (Int.tmod (wrap64 (a3)) (wrap64 ((wrap64 (2 * (Int.tmod (wrap64 (a2)) 2001))) + 1))))), .int .i64 t342] (by rfl) rfl rfl (by (try simp only [List.map_toArray, List.map_cons, List.map_nil]); first | done | rfl | (simp only [List.length_drop, List.length_take]; rfl)) ?_
            with_reducible refine (slotmeshref08_True.calls t344 t345 t346 (wrap64 ((wrap64 ((wrap64 ((Int.tmod (wrap64 (a1)) 1000000000) * 10000)) - (Int.tmod (wrap64 (a2)) 2001))) + (Int.tmod (wrap64 (a3)) (wrap64 ((wrap64 (2 * (Int.tmod (wrap64 (a2)) 2001))) + 1))))) t342 true _ A12.out).mono ?_
            rintro e w32 ⟨rfl, hb⟩
            refine ⟨_, rfl, ?_⟩
            have n0_ := Aside0.mk (blk_below (g := gb339) (o := .cells #[.int .i64 a0_0, .int .i64 a0_1] 41 (0, 0)) (by (with_reducible repeat (first | refine blk_drewN ?_ _ | refine blk_drew ?_ | refine blk_alloc ?_ _)); exact BK339.out) hb)
            have n1_ := Aside0.mk (blk_below (g := gb341) (o := .cells #[.int .i64 0, .int .i64 0, .int .i64 (Int.tmod (wrap64 (a2)) 2001), .int .i64 (Int.tmod (wrap64 (a1)) 1000000000), .int .i64 t342] 25 (0, 0)) (by (with_reducible repeat (first | refine blk_drewN ?_ _ | refine blk_drew ?_ | refine blk_alloc ?_ _)); exact BK341.out) hb)
            have n2_ := Aside0.mk (blk_below (g := gb348) (o := .cells #[.int .i64 t344, .int .i64 t345, .int .i64 t346] 23 (0, 0)) (by (with_reducible repeat (first | refine blk_drewN ?_ _ | refine blk_drew ?_ | refine blk_alloc ?_ _)); exact BK348.out) hb)
            have n3_ := Aside0.mk (below_step (by repeat (first | (with_reducible first | exact HB.out | apply below_alloc | apply pw_below_drewN | apply below_drew1 | refine below_set ?_ GE339.out | refine below_set ?_ GE341.out | refine below_set ?_ GE348.out) | exact HB.out)) hb)
            clear BK339
            clear BK341
            clear BK348
            clear HB
            have BK339 := n0_
            have BK341 := n1_
            have BK348 := n2_
            have HB := n3_
            clear n0_ n1_ n2_ n3_
            (try clear hb)
            (try clear hb2)
            (try clear hk)
            (try clear hi)
            refine hK.out _ _ ⟨(blk_cell BK348.out 0).trans rfl, (blk_cell BK348.out 1).trans rfl, (blk_cell BK348.out 2).trans rfl, (blk_cell BK341.out 0).trans rfl, (blk_cell BK341.out 1).trans rfl, (blk_cell BK341.out 2).trans rfl, (blk_cell BK341.out 3).trans rfl, (blk_cell BK341.out 4).trans rfl⟩ (fun hHeld => ?_)
            clear hK K
            refine norm_ (a' := ?_) ?_ ?_
            rotate_left
            · show Act.put _ (some 63) _ = _
              simp only [Act.put, List.setIfInBounds_toArray, List.set_cons_zero, List.set_cons_succ, i64_w, i32_w]
              rfl
            refine pure_ (i := 10) (N := some 64) (v := ?_) (a' := ?_) #[true, true, true, true, true, true, true, true, true, true, true, false, false, false, false, false, false, false, false, false] rfl rfl (any_of HT_.out (by kernel_rfl)) (fun _ _ _ h => h) (Or.inl ⟨by rfl, ?_⟩) ?_ ?_
            rotate_left
            · intro w'
              go_simp
              with_reducible rfl
            rotate_left
            · simp only [Act.put, List.setIfInBounds_toArray, List.set_cons_zero, List.set_cons_succ, i64_w, i32_w]
              rfl
            refine pure_ (i := 11) (N := some 65) (v := ?_) (a' := ?_) #[true, true, true, true, true, true, true, true, true, true, true, true, false, false, false, false, false, false, false, false] rfl rfl (any_of HT_.out (by kernel_rfl)) (fun _ _ _ h => h) (Or.inl ⟨by rfl, ?_⟩) ?_ ?_
            rotate_left
            · intro w'
              go_simp
              with_reducible rfl
            rotate_left
            · simp only [Act.put, List.setIfInBounds_toArray, List.set_cons_zero, List.set_cons_succ, i64_w, i32_w]
              rfl
            refine pure_ (i := 14) (N := some 68) (v := ?_) (a' := ?_) #[true, true, true, true, true, true, true, true, true, true, true, true, false, false, true, false, false, false, false, false] rfl rfl (any_of HT_.out (by kernel_rfl)) (fun _ _ _ h => h) (Or.inl ⟨by rfl, ?_⟩) ?_ ?_
            rotate_left
            · intro w'
              go_simp
              with_reducible rfl
            rotate_left
            · simp only [Act.put, List.setIfInBounds_toArray, List.set_cons_zero, List.set_cons_succ, i64_w, i32_w]
              rfl
            refine take_ (i := 12) (N := some 66) (v := ?_) (a' := ?_) #[true, true, true, true, true, true, true, true, true, true, true, true, true, false, true, false, false, false, false, false] rfl rfl (take_ofW HT_.out HW_.out (by kernel_rfl)) (fun _ _ _ h => h) (Or.inl ⟨by rfl, ?_⟩) hHeld ?_ ?_
            rotate_left
            · rintro w' ⟨s0, s1, s2, s3, s4, s5, s6, s7⟩
              go_simp
              with_reducible rfl
            rotate_left
            · simp only [Act.put, List.setIfInBounds_toArray, List.set_cons_zero, List.set_cons_succ, i64_w, i32_w]
              rfl
            refine take_ (i := 15) (N := some 69) (v := ?_) (a' := ?_) #[true, true, true, true, true, true, true, true, true, true, true, true, true, false, true, true, false, false, false, false] rfl rfl (take_ofW HT_.out HW_.out (by kernel_rfl)) (fun _ _ _ h => h) (Or.inl ⟨by rfl, ?_⟩) hHeld ?_ ?_
            rotate_left
            · rintro w' ⟨s0, s1, s2, s3, s4, s5, s6, s7⟩
              go_simp
              with_reducible rfl
            rotate_left
            · simp only [Act.put, List.setIfInBounds_toArray, List.set_cons_zero, List.set_cons_succ, i64_w, i32_w]
              rfl
            refine pure_ (i := 16) (N := some 70) (v := ?_) (a' := ?_) #[true, true, true, true, true, true, true, true, true, true, true, true, true, false, true, true, true, false, false, false] rfl rfl (any_of HT_.out (by kernel_rfl)) (fun _ _ _ h => h) (Or.inl ⟨by rfl, ?_⟩) ?_ ?_
            rotate_left
            · intro w'
              go_simp
              with_reducible rfl
            rotate_left
            · simp only [Act.put, List.setIfInBounds_toArray, List.set_cons_zero, List.set_cons_succ, i64_w, i32_w]
              rfl
            refine one_ (i := 13) (N := some 67) #[true, true, true, true, true, true, true, true, true, true, true, true, true, true, true, true, true, false, false, false] rfl rfl (one_of HT_.out (by kernel_rfl)) (by decide) (fun K hK => ?_)
            refine goes_ Try.func20 (by kernel_rfl) rfl #[.agg #[.int .i64 t344, .int .i64 t345, .int .i64 t346]] (by rfl) rfl rfl (by (try simp only [List.map_toArray, List.map_cons, List.map_nil]); first | done | rfl | (simp only [List.length_drop, List.length_take]; rfl)) ?_
            with_reducible refine (bound_Width.calls k t344 t345 t346 t350 _ A14.out).mono ?_
            rintro e w33 ⟨rfl, hb⟩
            refine ⟨_, rfl, ?_⟩
            have n0_ := Aside0.mk (blk_below (g := gb339) (o := .cells #[.int .i64 a0_0, .int .i64 a0_1] 41 (0, 0)) (by (with_reducible repeat (first | refine blk_drewN ?_ _ | refine blk_drew ?_ | refine blk_alloc ?_ _)); exact BK339.out) hb)
            have n1_ := Aside0.mk (blk_below (g := gb341) (o := .cells #[.int .i64 0, .int .i64 0, .int .i64 (Int.tmod (wrap64 (a2)) 2001), .int .i64 (Int.tmod (wrap64 (a1)) 1000000000), .int .i64 t342] 25 (0, 0)) (by (with_reducible repeat (first | refine blk_drewN ?_ _ | refine blk_drew ?_ | refine blk_alloc ?_ _)); exact BK341.out) hb)
            have n2_ := Aside0.mk (blk_below (g := gb348) (o := .cells #[.int .i64 t344, .int .i64 t345, .int .i64 t346] 23 (0, 0)) (by (with_reducible repeat (first | refine blk_drewN ?_ _ | refine blk_drew ?_ | refine blk_alloc ?_ _)); exact BK348.out) hb)
            have n3_ := Aside0.mk (below_step (by repeat (first | (with_reducible first | exact HB.out | apply below_alloc | apply pw_below_drewN | apply below_drew1 | refine below_set ?_ GE339.out | refine below_set ?_ GE341.out | refine below_set ?_ GE348.out) | exact HB.out)) hb)
            clear BK339
            clear BK341
            clear BK348
            clear HB
            have BK339 := n0_
            have BK341 := n1_
            have BK348 := n2_
            have HB := n3_
            clear n0_ n1_ n2_ n3_
            (try clear hb)
            (try clear hb2)
            (try clear hk)
            (try clear hi)
            refine hK.out _ _ ⟨(blk_cell BK348.out 0).trans rfl, (blk_cell BK348.out 1).trans rfl, (blk_cell BK348.out 2).trans rfl, (blk_cell BK341.out 0).trans rfl, (blk_cell BK341.out 1).trans rfl, (blk_cell BK341.out 2).trans rfl, (blk_cell BK341.out 3).trans rfl, (blk_cell BK341.out 4).trans rfl⟩ (fun hHeld => ?_)
            clear hK K
            refine norm_ (a' := ?_) ?_ ?_
            rotate_left
            · show Act.put _ (some 67) _ = _
              simp only [Act.put, List.setIfInBounds_toArray, List.set_cons_zero, List.set_cons_succ, i64_w, i32_w]
              rfl
            refine pure_ (i := 17) (N := some 71) (v := ?_) (a' := ?_) #[true, true, true, true, true, true, true, true, true, true, true, true, true, true, true, true, true, true, false, false] rfl rfl (any_of HT_.out (by kernel_rfl)) (fun _ _ _ h => h) (Or.inl ⟨by rfl, ?_⟩) ?_ ?_
            rotate_left
            · intro w'
              go_simp
              with_reducible rfl
            rotate_left
            · simp only [Act.put, List.setIfInBounds_toArray, List.set_cons_zero, List.set_cons_succ, i64_w, i32_w]
              rfl
            refine pure_ (i := 18) (N := some 72) (v := ?_) (a' := ?_) #[true, true, true, true, true, true, true, true, true, true, true, true, true, true, true, true, true, true, true, false] rfl rfl (any_of HT_.out (by kernel_rfl)) (fun _ _ _ h => h) (Or.inl ⟨by rfl, ?_⟩) ?_ ?_
            rotate_left
            · intro w'
              go_simp
              with_reducible rfl
            rotate_left
            · simp only [Act.put, List.setIfInBounds_toArray, List.set_cons_zero, List.set_cons_succ, i64_w, i32_w]
              rfl
            refine pure_ (i := 19) (N := some 8) (v := ?_) (a' := ?_) #[true, true, true, true, true, true, true, true, true, true, true, true, true, true, true, true, true, true, true, true] rfl rfl (any_of HT_.out (by kernel_rfl)) (fun _ _ _ h => h) (Or.inl ⟨by rfl, ?_⟩) ?_ ?_
            rotate_left
            · intro w'
              go_simp
              with_reducible rfl
            rotate_left
            · simp only [Act.put, List.setIfInBounds_toArray, List.set_cons_zero, List.set_cons_succ, i64_w, i32_w]
              rfl
            refine done_ (done_of HT_.out (by kernel_rfl)) ?_
            try go_wp2
            go_ret
            exact ⟨by first | rfl | (simp [errW_none, errW_some] <;> rfl) | (simp [*, errW_none, errW_some] <;> rfl), by repeat (first | (with_reducible first | exact HB.out | apply below_alloc | apply pw_below_drewN | apply below_drew1 | refine below_set ?_ GE339.out | refine below_set ?_ GE341.out | refine below_set ?_ GE348.out) | exact HB.out)⟩
          · replace c13 := Bool.eq_false_iff.mpr c13
            subst c13
            have H1 : (none) = some r := by rw [if_neg (show ¬ (false = true) by decide)] at H; exact H
            clear H
            have H := H1
            clear H1
            exact absurd H (by simp)
        · rw [if_neg c11] at H
          have c11b0 : (t347 == 0) = false := beq_eq_false_iff_ne.mpr c11
          have c11b1 : (t347 != 0) = true := bne_iff_ne.mpr c11
          exact absurd H (by simp)
      · replace c10 := Bool.eq_false_iff.mpr c10
        subst c10
        have H1 : (none) = some r := by rw [if_neg (show ¬ (false = true) by decide)] at H; exact H
        clear H
        have H := H1
        clear H1
        exact absurd H (by simp)
    · rw [if_neg c8] at H
      have c8b0 : (t343 == 0) = false := beq_eq_false_iff_ne.mpr c8
      have c8b1 : (t343 != 0) = true := bne_iff_ne.mpr c8
      obtain rfl := Option.some.inj H
      go_enter Try.func10, Try.ntmps10
      try go_wp2_with (first | ((with_reducible refine gate_dst (N := 4) rfl ?_); refine box_event ?hg (N := 4) ?hd (cs := #[.int .i64 a0_0, .int .i64 a0_1]) (t := 41) ?hr ?_; (case hd => rfl); (case hg => rfl); (case hr => first | (go_simp; done) | (go_simp; rfl)); intro gb339 hg w34 hbox hb; have n0_ := Aside0.mk (below_step (by repeat (first | (with_reducible first | exact HB.out | apply below_alloc | apply pw_below_drewN | apply below_drew1) | exact HB.out)) hb); have n1_ := Aside0.mk (hbox); have n2_ := Aside0.mk ((by rw [hg]; exact (below_size (by repeat (first | (with_reducible first | exact HB.out | apply below_alloc | apply pw_below_drewN | apply below_drew1) | exact HB.out))) : w.heap.size ≤ gb339)); have n3_ := Aside0.mk ((by rw [hg]; exact (below_size (by repeat (first | (with_reducible first | exact HB.out | apply below_alloc | apply pw_below_drewN | apply below_drew1) | exact HB.out))) : w.heap.size ≤ gb339)); clear HB; have HB := n0_; have BK339 := n1_; have GW339 := n2_; have GE339 := n3_; clear n0_ n1_ n2_ n3_; clear hb hbox hg) | ((with_reducible refine gate_callee (f := 11) rfl ?_); refine goesL_ (some 16) rfl rfl Try.func11 (by kernel_rfl) rfl #[] rfl (by (try simp only [List.map_toArray, List.map_cons, List.map_nil]); first | done | rfl | (simp only [List.length_drop, List.length_take]; rfl)) ?_; (with_reducible refine (slotmeshlaw08_head.calls  t340 _ A5.out).mono ?_); rintro e w35 ⟨rfl, hb⟩; refine ⟨_, rfl, ?_⟩; have n0_ := Aside0.mk (blk_below (g := gb339) (o := .cells #[.int .i64 a0_0, .int .i64 a0_1] 41 (0, 0)) (by (with_reducible repeat (first | refine blk_drewN ?_ _ | refine blk_drew ?_ | refine blk_alloc ?_ _)); exact BK339.out) hb); have n1_ := Aside0.mk (below_step (by repeat (first | (with_reducible first | exact HB.out | apply below_alloc | apply pw_below_drewN | apply below_drew1 | refine below_set ?_ GE339.out) | exact HB.out)) hb); clear BK339; clear HB; have BK339 := n0_; have HB := n1_; clear n0_ n1_; (try clear hb); (try clear hb2); (try clear hk); (try clear hi)) | ((with_reducible refine gate_dst (N := 10) rfl ?_); refine box_event ?hg (N := 10) ?hd (cs := #[.int .i64 0, .int .i64 0, .int .i64 0, .int .i64 0, .int .i64 0]) (t := 25) ?hr ?_; (case hd => rfl); (case hg => rfl); (case hr => first | (go_simp; done) | (go_simp; rfl)); intro gb341 hg w36 hbox hb; have n0_ := Aside0.mk (blk_below (g := gb339) (o := .cells #[.int .i64 a0_0, .int .i64 a0_1] 41 (0, 0)) (by (with_reducible repeat (first | refine blk_drewN ?_ _ | refine blk_drew ?_ | refine blk_alloc ?_ _)); exact BK339.out) hb); have n1_ := Aside0.mk (below_step (by repeat (first | (with_reducible first | exact HB.out | apply below_alloc | apply pw_below_drewN | apply below_drew1 | refine below_set ?_ GE339.out) | exact HB.out)) hb); have n2_ := Aside0.mk (hbox); have n3_ := Aside0.mk ((by rw [hg]; exact (below_size (by repeat (first | (with_reducible first | exact HB.out | apply below_alloc | apply pw_below_drewN | apply below_drew1 | refine below_set ?_ GE339.out) | exact HB.out))) : w.heap.size ≤ gb341)); have n4_ := Aside0.mk ((by rw [hg]; exact (below_size (by repeat (first | (with_reducible first | exact HB.out | apply below_alloc | apply pw_below_drewN | apply below_drew1 | refine below_set ?_ GE339.out) | exact HB.out))) : w.heap.size ≤ gb341)); have n5_ := Aside0.mk ((by rw [hg]; exact Nat.ne_of_lt (blk_lt (g := gb339) (o := .cells #[.int .i64 a0_0, .int .i64 a0_1] 41 (0, 0)) (by (with_reducible repeat (first | refine blk_drewN ?_ _ | refine blk_drew ?_ | refine blk_alloc ?_ _)); exact BK339.out)) : gb339 ≠ gb341)); have n6_ := Aside0.mk ((by rw [hg]; exact Nat.ne_of_gt (blk_lt (g := gb339) (o := .cells #[.int .i64 a0_0, .int .i64 a0_1] 41 (0, 0)) (by (with_reducible repeat (first | refine blk_drewN ?_ _ | refine blk_drew ?_ | refine blk_alloc ?_ _)); exact BK339.out)) : gb341 ≠ gb339)); clear BK339; clear HB; have BK339 := n0_; have HB := n1_; have BK341 := n2_; have GW341 := n3_; have GE341 := n4_; have NB339_341 := n5_; have NB341_339 := n6_; clear n0_ n1_ n2_ n3_ n4_ n5_ n6_; clear hb hbox hg; have hnb37 := NB341_339.out; have hnc37 := NB339_341.out; have hcz38_0 : w36.cell? ⟨gb341, 0, none⟩ = some (.int .i64 0) := (blk_cell BK341.out 0).trans rfl; have hcz38_1 : w36.cell? ⟨gb341, 1, none⟩ = some (.int .i64 0) := (blk_cell BK341.out 1).trans rfl; have hcz38_2 : w36.cell? ⟨gb341, 2, none⟩ = some (.int .i64 0) := (blk_cell BK341.out 2).trans rfl; have hcz38_3 : w36.cell? ⟨gb341, 3, none⟩ = some (.int .i64 0) := (blk_cell BK341.out 3).trans rfl; have hcz38_4 : w36.cell? ⟨gb341, 4, none⟩ = some (.int .i64 0) := (blk_cell BK341.out 4).trans rfl; have hfz38_0 := blk_frozen BK341.out 0; have hfz38_1 := blk_frozen BK341.out 1; have hfz38_2 := blk_frozen BK341.out 2; have hfz38_3 := blk_frozen BK341.out 3; have hfz38_4 := blk_frozen BK341.out 4))
      have n0_ : Aside0 ((((((w36.setCell ⟨gb341, 0, none⟩ (.int .i64 0)).setCell ⟨gb341, 1, none⟩ (.int .i64 0)).setCell ⟨gb341, 2, none⟩ (.int .i64 (Int.tmod (wrap64 (a2)) 2001))).setCell ⟨gb341, 3, none⟩ (.int .i64 (Int.tmod (wrap64 (a1)) 1000000000))).setCell ⟨gb341, 4, none⟩ (.int .i64 0)).heap[gb339]? = some (.cells #[.int .i64 a0_0, .int .i64 a0_1] 41 (0, 0))) := ⟨by (with_reducible repeat (first | refine blk_drewN ?_ _ | refine blk_drew ?_ | refine blk_alloc ?_ _)); refine blk_far ?_ NB339_341.out _; (with_reducible repeat (first | refine blk_drewN ?_ _ | refine blk_drew ?_ | refine blk_alloc ?_ _)); refine blk_far ?_ NB339_341.out _; (with_reducible repeat (first | refine blk_drewN ?_ _ | refine blk_drew ?_ | refine blk_alloc ?_ _)); refine blk_far ?_ NB339_341.out _; (with_reducible repeat (first | refine blk_drewN ?_ _ | refine blk_drew ?_ | refine blk_alloc ?_ _)); refine blk_far ?_ NB339_341.out _; (with_reducible repeat (first | refine blk_drewN ?_ _ | refine blk_drew ?_ | refine blk_alloc ?_ _)); refine blk_far ?_ NB339_341.out _; (with_reducible repeat (first | refine blk_drewN ?_ _ | refine blk_drew ?_ | refine blk_alloc ?_ _)); exact BK339.out⟩
      have n1_ : Aside0 ((((((w36.setCell ⟨gb341, 0, none⟩ (.int .i64 0)).setCell ⟨gb341, 1, none⟩ (.int .i64 0)).setCell ⟨gb341, 2, none⟩ (.int .i64 (Int.tmod (wrap64 (a2)) 2001))).setCell ⟨gb341, 3, none⟩ (.int .i64 (Int.tmod (wrap64 (a1)) 1000000000))).setCell ⟨gb341, 4, none⟩ (.int .i64 0)).heap[gb341]? = some (.cells #[.int .i64 0, .int .i64 0, .int .i64 (Int.tmod (wrap64 (a2)) 2001), .int .i64 (Int.tmod (wrap64 (a1)) 1000000000), .int .i64 0] 25 (0, 0))) := ⟨by (with_reducible repeat (first | refine blk_drewN ?_ _ | refine blk_drew ?_ | refine blk_alloc ?_ _)); refine blk_put (cs := #[.int .i64 0, .int .i64 0, .int .i64 (Int.tmod (wrap64 (a2)) 2001), .int .i64 (Int.tmod (wrap64 (a1)) 1000000000), .int .i64 0]) ?_ 4 _ rfl; (with_reducible repeat (first | refine blk_drewN ?_ _ | refine blk_drew ?_ | refine blk_alloc ?_ _)); refine blk_put (cs := #[.int .i64 0, .int .i64 0, .int .i64 (Int.tmod (wrap64 (a2)) 2001), .int .i64 0, .int .i64 0]) ?_ 3 _ rfl; (with_reducible repeat (first | refine blk_drewN ?_ _ | refine blk_drew ?_ | refine blk_alloc ?_ _)); refine blk_put (cs := #[.int .i64 0, .int .i64 0, .int .i64 0, .int .i64 0, .int .i64 0]) ?_ 2 _ rfl; (with_reducible repeat (first | refine blk_drewN ?_ _ | refine blk_drew ?_ | refine blk_alloc ?_ _)); refine blk_put (cs := #[.int .i64 0, .int .i64 0, .int .i64 0, .int .i64 0, .int .i64 0]) ?_ 1 _ rfl; (with_reducible repeat (first | refine blk_drewN ?_ _ | refine blk_drew ?_ | refine blk_alloc ?_ _)); refine blk_put (cs := #[.int .i64 0, .int .i64 0, .int .i64 0, .int .i64 0, .int .i64 0]) ?_ 0 _ rfl; (with_reducible repeat (first | refine blk_drewN ?_ _ | refine blk_drew ?_ | refine blk_alloc ?_ _)); exact BK341.out⟩
      have n2_ : Aside0 (Below w.heap.size w (((((w36.setCell ⟨gb341, 0, none⟩ (.int .i64 0)).setCell ⟨gb341, 1, none⟩ (.int .i64 0)).setCell ⟨gb341, 2, none⟩ (.int .i64 (Int.tmod (wrap64 (a2)) 2001))).setCell ⟨gb341, 3, none⟩ (.int .i64 (Int.tmod (wrap64 (a1)) 1000000000))).setCell ⟨gb341, 4, none⟩ (.int .i64 0))) := ⟨by repeat (first | (with_reducible first | exact HB.out | apply below_alloc | apply pw_below_drewN | apply below_drew1 | refine below_set ?_ GE339.out | refine below_set ?_ GE341.out) | exact HB.out)⟩
      (try clear BK339)
      (try clear BK341)
      (try clear HB)
      generalize (((((w36.setCell ⟨gb341, 0, none⟩ (.int .i64 0)).setCell ⟨gb341, 1, none⟩ (.int .i64 0)).setCell ⟨gb341, 2, none⟩ (.int .i64 (Int.tmod (wrap64 (a2)) 2001))).setCell ⟨gb341, 3, none⟩ (.int .i64 (Int.tmod (wrap64 (a1)) 1000000000))).setCell ⟨gb341, 4, none⟩ (.int .i64 0)) = w39 at n0_ n1_ n2_ ⊢
      have BK339 := n0_
      have BK341 := n1_
      have HB := n2_
      clear n0_ n1_ n2_
      have n0_ := Aside0.mk (blk_drew BK339.out)
      have n1_ := Aside0.mk (blk_drew BK341.out)
      have n2_ := Aside0.mk (below_drew1 HB.out)
      clear BK339
      clear BK341
      clear HB
      have BK339 := n0_
      have BK341 := n1_
      have HB := n2_
      clear n0_ n1_ n2_
      refine start_ (n := 15) (S := fun w' => w'.cell? ⟨gb341, 0, none⟩ = some (.int .i64 0) ∧ w'.cell? ⟨gb341, 1, none⟩ = some (.int .i64 0) ∧ w'.cell? ⟨gb341, 2, none⟩ = some (.int .i64 (Int.tmod (wrap64 (a2)) 2001)) ∧ w'.cell? ⟨gb341, 3, none⟩ = some (.int .i64 (Int.tmod (wrap64 (a1)) 1000000000)) ∧ w'.cell? ⟨gb341, 4, none⟩ = some (.int .i64 0)) (ds := []) #[false, false, false, false, false, false, false, false, false, false, false, false, false, false, false] (by kernel_rfl) rfl rfl ⟨(blk_cell BK341.out 0).trans rfl, (blk_cell BK341.out 1).trans rfl, (blk_cell BK341.out 2).trans rfl, (blk_cell BK341.out 3).trans rfl, (blk_cell BK341.out 4).trans rfl⟩ (fun hHeld => ?_); refine with_tabW slotmeshlaw08_BoundHearing.tab3 slotmeshlaw08_BoundHearing.bits3 (fun HT_ HW_ => ?_)
      generalize w39.drew = w40 at BK339 BK341 HB hHeld ⊢
      refine pure_ (i := 0) (N := some 24) (v := ?_) (a' := ?_) #[true, false, false, false, false, false, false, false, false, false, false, false, false, false, false] rfl rfl (any_of HT_.out (by kernel_rfl)) (fun _ _ _ h => h) (Or.inl ⟨by rfl, ?_⟩) ?_ ?_
      rotate_left
      · intro w'
        go_simp
        with_reducible rfl
      rotate_left
      · simp only [Act.put, List.setIfInBounds_toArray, List.set_cons_zero, List.set_cons_succ, i64_w, i32_w]
        rfl
      refine pure_ (i := 3) (N := some 27) (v := ?_) (a' := ?_) #[true, false, false, true, false, false, false, false, false, false, false, false, false, false, false] rfl rfl (any_of HT_.out (by kernel_rfl)) (fun _ _ _ h => h) (Or.inl ⟨by rfl, ?_⟩) ?_ ?_
      rotate_left
      · intro w'
        go_simp
        with_reducible rfl
      rotate_left
      · simp only [Act.put, List.setIfInBounds_toArray, List.set_cons_zero, List.set_cons_succ, i64_w, i32_w]
        rfl
      refine pure_ (i := 6) (N := some 30) (v := ?_) (a' := ?_) #[true, false, false, true, false, false, true, false, false, false, false, false, false, false, false] rfl rfl (any_of HT_.out (by kernel_rfl)) (fun _ _ _ h => h) (Or.inl ⟨by rfl, ?_⟩) ?_ ?_
      rotate_left
      · intro w'
        go_simp
        with_reducible rfl
      rotate_left
      · simp only [Act.put, List.setIfInBounds_toArray, List.set_cons_zero, List.set_cons_succ, i64_w, i32_w]
        rfl
      refine pure_ (i := 7) (N := some 31) (v := ?_) (a' := ?_) #[true, false, false, true, false, false, true, true, false, false, false, false, false, false, false] rfl rfl (any_of HT_.out (by kernel_rfl)) (fun _ _ _ h => h) (Or.inl ⟨by rfl, ?_⟩) ?_ ?_
      rotate_left
      · intro w'
        go_simp
        with_reducible rfl
      rotate_left
      · simp only [Act.put, List.setIfInBounds_toArray, List.set_cons_zero, List.set_cons_succ, i64_w, i32_w]
        rfl
      refine pure_ (i := 8) (N := some 32) (v := ?_) (a' := ?_) #[true, false, false, true, false, false, true, true, true, false, false, false, false, false, false] rfl rfl (any_of HT_.out (by kernel_rfl)) (fun _ _ _ h => h) (Or.inl ⟨by rfl, ?_⟩) ?_ ?_
      rotate_left
      · intro w'
        go_simp
        with_reducible rfl
      rotate_left
      · simp only [Act.put, List.setIfInBounds_toArray, List.set_cons_zero, List.set_cons_succ, i64_w, i32_w]
        rfl
      refine take_ (i := 1) (N := some 25) (v := ?_) (a' := ?_) #[true, true, false, true, false, false, true, true, true, false, false, false, false, false, false] rfl rfl (take_ofW HT_.out HW_.out (by kernel_rfl)) (fun _ _ _ h => h) (Or.inl ⟨by rfl, ?_⟩) hHeld ?_ ?_
      rotate_left
      · rintro w' ⟨s0, s1, s2, s3, s4⟩
        go_simp
        with_reducible rfl
      rotate_left
      · simp only [Act.put, List.setIfInBounds_toArray, List.set_cons_zero, List.set_cons_succ, i64_w, i32_w]
        rfl
      refine pure_ (i := 2) (N := some 26) (v := ?_) (a' := ?_) #[true, true, true, true, false, false, true, true, true, false, false, false, false, false, false] rfl rfl (any_of HT_.out (by kernel_rfl)) (fun _ _ _ h => h) (Or.inl ⟨by rfl, ?_⟩) ?_ ?_
      rotate_left
      · intro w'
        go_simp
        with_reducible rfl
      rotate_left
      · simp only [Act.put, List.setIfInBounds_toArray, List.set_cons_zero, List.set_cons_succ, i64_w, i32_w]
        rfl
      refine take_ (i := 4) (N := some 28) (v := ?_) (a' := ?_) #[true, true, true, true, true, false, true, true, true, false, false, false, false, false, false] rfl rfl (take_ofW HT_.out HW_.out (by kernel_rfl)) (fun _ _ _ h => h) (Or.inl ⟨by rfl, ?_⟩) hHeld ?_ ?_
      rotate_left
      · rintro w' ⟨s0, s1, s2, s3, s4⟩
        go_simp
        with_reducible rfl
      rotate_left
      · simp only [Act.put, List.setIfInBounds_toArray, List.set_cons_zero, List.set_cons_succ, i64_w, i32_w]
        rfl
      refine pure_ (i := 5) (N := some 29) (v := ?_) (a' := ?_) #[true, true, true, true, true, true, true, true, true, false, false, false, false, false, false] rfl rfl (any_of HT_.out (by kernel_rfl)) (fun _ _ _ h => h) (Or.inl ⟨by rfl, ?_⟩) ?_ ?_
      rotate_left
      · intro w'
        go_simp
        with_reducible rfl
      rotate_left
      · simp only [Act.put, List.setIfInBounds_toArray, List.set_cons_zero, List.set_cons_succ, i64_w, i32_w]
        rfl
      refine take_ (i := 9) (N := some 33) (v := ?_) (a' := ?_) #[true, true, true, true, true, true, true, true, true, true, false, false, false, false, false] rfl rfl (take_ofW HT_.out HW_.out (by kernel_rfl)) (fun _ _ _ h => h) (Or.inl ⟨by rfl, ?_⟩) hHeld ?_ ?_
      rotate_left
      · rintro w' ⟨s0, s1, s2, s3, s4⟩
        go_simp
        with_reducible rfl
      rotate_left
      · simp only [Act.put, List.setIfInBounds_toArray, List.set_cons_zero, List.set_cons_succ, i64_w, i32_w]
        rfl
      refine pure_ (i := 10) (N := some 34) (v := ?_) (a' := ?_) #[true, true, true, true, true, true, true, true, true, true, true, false, false, false, false] rfl rfl (any_of HT_.out (by kernel_rfl)) (fun _ _ _ h => h) (Or.inl ⟨by rfl, ?_⟩) ?_ ?_
      rotate_left
      · intro w'
        go_simp
        with_reducible rfl
      rotate_left
      · simp only [Act.put, List.setIfInBounds_toArray, List.set_cons_zero, List.set_cons_succ, i64_w, i32_w]
        rfl
      refine pure_ (i := 11) (N := some 35) (v := ?_) (a' := ?_) #[true, true, true, true, true, true, true, true, true, true, true, true, false, false, false] rfl rfl (any_of HT_.out (by kernel_rfl)) (fun _ _ _ h => h) (Or.inl ⟨by rfl, ?_⟩) ?_ ?_
      rotate_left
      · intro w'
        go_simp
        with_reducible rfl
      rotate_left
      · simp only [Act.put, List.setIfInBounds_toArray, List.set_cons_zero, List.set_cons_succ, i64_w, i32_w]
        rfl
      refine pure_ (i := 12) (N := some 36) (v := ?_) (a' := ?_) #[true, true, true, true, true, true, true, true, true, true, true, true, true, false, false] rfl rfl (any_of HT_.out (by kernel_rfl)) (fun _ _ _ h => h) (Or.inl ⟨by rfl, ?_⟩) ?_ ?_
      rotate_left
      · intro w'
        go_simp
        with_reducible rfl
      rotate_left
      · simp only [Act.put, List.setIfInBounds_toArray, List.set_cons_zero, List.set_cons_succ, i64_w, i32_w]
        rfl
      refine pure_ (i := 13) (N := some 37) (v := ?_) (a' := ?_) #[true, true, true, true, true, true, true, true, true, true, true, true, true, true, false] rfl rfl (any_of HT_.out (by kernel_rfl)) (fun _ _ _ h => h) (Or.inl ⟨by rfl, ?_⟩) ?_ ?_
      rotate_left
      · intro w'
        go_simp
        with_reducible rfl
      rotate_left
      · simp only [Act.put, List.setIfInBounds_toArray, List.set_cons_zero, List.set_cons_succ, i64_w, i32_w]
        rfl
      refine pure_ (i := 14) (N := some 11) (v := ?_) (a' := ?_) #[true, true, true, true, true, true, true, true, true, true, true, true, true, true, true] rfl rfl (any_of HT_.out (by kernel_rfl)) (fun _ _ _ h => h) (Or.inl ⟨by rfl, ?_⟩) ?_ ?_
      rotate_left
      · intro w'
        go_simp
        with_reducible rfl
      rotate_left
      · simp only [Act.put, List.setIfInBounds_toArray, List.set_cons_zero, List.set_cons_succ, i64_w, i32_w]
        rfl
      refine done_ (done_of HT_.out (by kernel_rfl)) ?_
      have hcz41_0 : w40.cell? ⟨gb339, 0, none⟩ = some (.int .i64 a0_0) := (blk_cell BK339.out 0).trans rfl
      have hcz41_1 : w40.cell? ⟨gb339, 1, none⟩ = some (.int .i64 a0_1) := (blk_cell BK339.out 1).trans rfl
      have hfz41_0 := blk_frozen BK339.out 0
      have hfz41_1 := blk_frozen BK339.out 1
      try go_wp2_with (first | ((with_reducible refine gate_callee (f := 25) rfl ?_); refine goesL_ (some 41) rfl rfl Try.func25 (by kernel_rfl) rfl #[.agg #[.int .i64 a0_0, .int .i64 a0_1], .int .i64 (wrap64 ((wrap64 ((wrap64 ((Int.tmod (wrap64 (a1)) 1000000000) * 10000)) - (Int.tmod (wrap64 (a2)) 2001))) + (Int.tmod (wrap64 (a3)) (wrap64 ((wrap64 (2 * (Int.tmod (wrap64 (a2)) 2001))) + 1)))))] rfl (by (try simp only [List.map_toArray, List.map_cons, List.map_nil]); first | done | rfl | (simp only [List.length_drop, List.length_take]; rfl)) ?_; (with_reducible refine (clock_Show.calls a0_0 a0_1 (wrap64 ((wrap64 ((wrap64 ((Int.tmod (wrap64 (a1)) 1000000000) * 10000)) - (Int.tmod (wrap64 (a2)) 2001))) + (Int.tmod (wrap64 (a3)) (wrap64 ((wrap64 (2 * (Int.tmod (wrap64 (a2)) 2001))) + 1))))) t342 t343 _ A7.out).mono ?_); rintro e w42 ⟨rfl, hb⟩; refine ⟨_, rfl, ?_⟩; have n0_ := Aside0.mk (blk_below (g := gb339) (o := .cells #[.int .i64 a0_0, .int .i64 a0_1] 41 (0, 0)) (by (with_reducible repeat (first | refine blk_drewN ?_ _ | refine blk_drew ?_ | refine blk_alloc ?_ _)); exact BK339.out) hb); have n1_ := Aside0.mk (blk_below (g := gb341) (o := .cells #[.int .i64 0, .int .i64 0, .int .i64 (Int.tmod (wrap64 (a2)) 2001), .int .i64 (Int.tmod (wrap64 (a1)) 1000000000), .int .i64 0] 25 (0, 0)) (by (with_reducible repeat (first | refine blk_drewN ?_ _ | refine blk_drew ?_ | refine blk_alloc ?_ _)); exact BK341.out) hb); have n2_ := Aside0.mk (below_step (by repeat (first | (with_reducible first | exact HB.out | apply below_alloc | apply pw_below_drewN | apply below_drew1 | refine below_set ?_ GE339.out | refine below_set ?_ GE341.out) | exact HB.out)) hb); clear BK339; clear BK341; clear HB; have BK339 := n0_; have BK341 := n1_; have HB := n2_; clear n0_ n1_ n2_; (try clear hb); (try clear hb2); (try clear hk); (try clear hi)))
      go_ret
      exact ⟨by first | rfl | (simp [errW_none, errW_some] <;> rfl) | (simp [*, errW_none, errW_some] <;> rfl), by repeat (first | (with_reducible first | exact HB.out | apply below_alloc | apply pw_below_drewN | apply below_drew1 | refine below_set ?_ GE339.out | refine below_set ?_ GE341.out) | exact HB.out)⟩

end Go.Proofs.Ytjmpgefhdafmfaa.P
