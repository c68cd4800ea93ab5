/- A claim's own texts, laid together by wip/zip.py without what the claim does not use. Conditions: none. -/
import Derived.Test.YtdpihbhkghjclaaZgpx0
import Derived.Test.YtdpihbhkghjclaaZgpx33
import Derived.Test.YtdpihbhkghjclaaZgpx42
import Derived.Test.YtdpihbhkghjclaaZgpx45
import Derived.Test.YtdpihbhkghjclaaZgpx35
import Derived.Test.YtdpihbhkghjclaaZgpx40
section
/- The Go functions of this claim as Lean functions, and the proofs that their calls answer so: written by wip/myprint.py over the kit's printer, hand-proved contracts laid in. Conditions: none. -/
namespace Go.Proofs.Ytdpihbhkghjclaa.P
open Go.RowKit Go.Proofs.YtdpihbhkghjclaaW.PrintWords Go.Proofs.YtdpihbhkghjclaaW.PrintLast Go.Proofs.YtdpihbhkghjclaaW.PrintMore
attribute [local go_sem] max2_int min2_int max_two min_two max_three min_three max_four min_four   -- for this text's walks alone
set_option linter.unusedVariables false
set_option linter.unusedSimpArgs false
/-! ### slotmeshref10_Listen: function 26 -/
def slotmeshref10_Listen.f (k : Nat) (a0_0 : Bool) (a0_1 : Int) (a0_2 : Int) (a0_3 : Int) (a0_4 : Int) (a0_5 : Int) (a0_6 : Int) (a1_0 : Int) (a1_1 : Int) (a2 : Int) : Option (Int × Int × Int) := (slotmeshref10_Send.f k a0_0 a0_1 a0_2 a0_3 a0_4 a0_5 a0_6 a1_0 a1_1 a2).bind fun bt265 => (if bt265.2 = 0 then ((slotmeshref10_Own.f a0_0 a0_1 a0_2 a0_3 a0_4 a0_5 a0_6 a2).bind fun t267 => ((slotmeshref09_Bound.f k a0_0 a0_1 a0_2 a0_3 a0_4 a0_5 a0_6 t267).bind fun bt268 => (some (wrap64 ((wrap64 (bt265.1 - 2004)) - bt268.1), wrap64 ((wrap64 (bt265.1 + 2004)) + bt268.1), 0)))) else (some (0, 0, bt265.2)))
def slotmeshref10_Listen.T4 : Bool × List (List Nat × List Nat) := (true, [([], []), ([], []), ([], []), ([1, 2], [1, 2]), ([0, 3, 3], [0, 3]), ([4], [4]), ([5], [5]), ([5], [5]), ([6, 4, 0, 1, 2, 3, 4, 5, 6], [6]), ([7, 8, 0, 1, 2, 3, 4, 5, 6, 7, 8], [7])])
def slotmeshref10_Listen.B4 : List Nat := [0, 0, 0, 6, 15, 31, 63, 63, 127, 511]
theorem slotmeshref10_Listen.tab4 : rtab .any (opsOf Try.f26 4) = slotmeshref10_Listen.T4 := by kernel_rfl
theorem slotmeshref10_Listen.bits4 : waitsOk slotmeshref10_Listen.T4.2 slotmeshref10_Listen.B4 = true := by kernel_rfl
set_option maxHeartbeats 8000000 in
set_option maxRecDepth 100000 in
theorem slotmeshref10_Listen.calls (k : Nat) (a0_0 : Bool) (a0_1 : Int) (a0_2 : Int) (a0_3 : Int) (a0_4 : Int) (a0_5 : Int) (a0_6 : Int) (a1_0 : Int) (a1_1 : Int) (a2 : Int) (r1 : Int) (r2 : Int) (r3 : Int) (w : World) (h : slotmeshref10_Listen.f k a0_0 a0_1 a0_2 a0_3 a0_4 a0_5 a0_6 a1_0 a1_1 a2 = some (r1, r2, r3)) :
    Calls Try.prog 26 #[.agg #[.bool a0_0, .int .i64 a0_1, .int .i64 a0_2, .int .i64 a0_3, .int .i64 a0_4, .int .i64 a0_5, .int .i64 a0_6], .agg #[.int .i64 a1_0, .int .i64 a1_1], .int .i64 a2] w fun e w' => e = .returned (.tuple #[.agg #[.int .i64 r1, .int .i64 r2], .int .i64 r3]) ∧ Below w.heap.size w w' := by
  have hu25 := Try.underlying25
  have hu27 := Try.underlying27
  have hu55 := Try.underlying55
  have HB := Aside0.mk (Below.refl w.heap.size w)
  have H : ((slotmeshref10_Send.f k a0_0 a0_1 a0_2 a0_3 a0_4 a0_5 a0_6 a1_0 a1_1 a2).bind fun bt265 => (if bt265.2 = 0 then ((slotmeshref10_Own.f a0_0 a0_1 a0_2 a0_3 a0_4 a0_5 a0_6 a2).bind fun t267 => ((slotmeshref09_Bound.f k a0_0 a0_1 a0_2 a0_3 a0_4 a0_5 a0_6 t267).bind fun bt268 => (some (wrap64 ((wrap64 (bt265.1 - 2004)) - bt268.1), wrap64 ((wrap64 (bt265.1 + 2004)) + bt268.1), 0)))) else (some (0, 0, bt265.2)))) = some (r1, r2, r3) := h
  clear h
  replace H := Option.bind_eq_some_iff.mp H
  obtain ⟨⟨t265, t266⟩, A40, H⟩ := H
  replace H : (if t266 = 0 then ((slotmeshref10_Own.f a0_0 a0_1 a0_2 a0_3 a0_4 a0_5 a0_6 a2).bind fun t267 => ((slotmeshref09_Bound.f k a0_0 a0_1 a0_2 a0_3 a0_4 a0_5 a0_6 t267).bind fun bt268 => (some (wrap64 ((wrap64 (t265 - 2004)) - bt268.1), wrap64 ((wrap64 (t265 + 2004)) + bt268.1), 0)))) else (some (0, 0, t266))) = some (r1, r2, r3) := H
  have A4 := Aside0.mk A40
  clear A40
  by_cases c5 : t266 = 0
  · rw [if_pos c5] at H
    have c5b0 : (t266 == 0) = true := beq_iff_eq.mpr c5
    have c5b1 : (t266 != 0) = false := bne_eq_false_iff_eq.mpr c5
    clear c5
    replace H := Option.bind_eq_some_iff.mp H
    obtain ⟨t267, A60, H⟩ := H
    replace H : ((slotmeshref09_Bound.f k a0_0 a0_1 a0_2 a0_3 a0_4 a0_5 a0_6 t267).bind fun bt268 => (some (wrap64 ((wrap64 (t265 - 2004)) - bt268.1), wrap64 ((wrap64 (t265 + 2004)) + bt268.1), 0))) = some (r1, r2, r3) := H
    have A6 := Aside0.mk A60
    clear A60
    replace H := Option.bind_eq_some_iff.mp H
    obtain ⟨⟨t268, t269⟩, A70, H⟩ := H
    replace H : (some (wrap64 ((wrap64 (t265 - 2004)) - t268), wrap64 ((wrap64 (t265 + 2004)) + t268), 0)) = some (r1, r2, r3) := H
    have A7 := Aside0.mk A70
    clear A70
    simp only [Option.some.injEq, Prod.mk.injEq] at H
    obtain ⟨rfl, rfl, rfl⟩ := H
    go_enter Try.func26, Try.ntmps26
    try go_wp2_with (first | ((with_reducible refine gate_dst (N := 3) rfl ?_); refine box_event ?hg (N := 3) ?hd (cs := #[.bool a0_0, .int .i64 a0_1, .int .i64 a0_2, .int .i64 a0_3, .int .i64 a0_4, .int .i64 a0_5, .int .i64 a0_6]) (t := 25) ?hr ?_; (case hd => rfl); (case hg => rfl); (case hr => first | (go_simp; done) | (go_simp; rfl)); intro gb262 hg w8 hbox hb; have n0_ := Aside0.mk (below_step (by repeat (first | (with_reducible first | exact HB.out | apply below_alloc | apply pw_below_drewN | apply below_drew1) | exact HB.out)) hb); have n1_ := Aside0.mk (hbox); have n2_ := Aside0.mk ((by rw [hg]; exact (below_size (by repeat (first | (with_reducible first | exact HB.out | apply below_alloc | apply pw_below_drewN | apply below_drew1) | exact HB.out))) : w.heap.size ≤ gb262)); have n3_ := Aside0.mk ((by rw [hg]; exact (below_size (by repeat (first | (with_reducible first | exact HB.out | apply below_alloc | apply pw_below_drewN | apply below_drew1) | exact HB.out))) : w.heap.size ≤ gb262)); clear HB; have HB := n0_; have BK262 := n1_; have GW262 := n2_; have GE262 := n3_; clear n0_ n1_ n2_ n3_; clear hb hbox hg) | ((with_reducible refine gate_dst (N := 4) rfl ?_); refine box_event ?hg (N := 4) ?hd (cs := #[.int .i64 a1_0, .int .i64 a1_1]) (t := 27) ?hr ?_; (case hd => rfl); (case hg => rfl); (case hr => first | (go_simp; done) | (go_simp; rfl)); intro gb263 hg w9 hbox hb; have n0_ := Aside0.mk (blk_below (g := gb262) (o := .cells #[.bool a0_0, .int .i64 a0_1, .int .i64 a0_2, .int .i64 a0_3, .int .i64 a0_4, .int .i64 a0_5, .int .i64 a0_6] 25 (0, 0)) (by (with_reducible repeat (first | refine blk_drewN ?_ _ | refine blk_drew ?_ | refine blk_alloc ?_ _)); exact BK262.out) hb); have n1_ := Aside0.mk (below_step (by repeat (first | (with_reducible first | exact HB.out | apply below_alloc | apply pw_below_drewN | apply below_drew1 | refine below_set ?_ GE262.out) | exact HB.out)) hb); have n2_ := Aside0.mk (hbox); have n3_ := Aside0.mk ((by rw [hg]; exact (below_size (by repeat (first | (with_reducible first | exact HB.out | apply below_alloc | apply pw_below_drewN | apply below_drew1 | refine below_set ?_ GE262.out) | exact HB.out))) : w.heap.size ≤ gb263)); have n4_ := Aside0.mk ((by rw [hg]; exact (below_size (by repeat (first | (with_reducible first | exact HB.out | apply below_alloc | apply pw_below_drewN | apply below_drew1 | refine below_set ?_ GE262.out) | exact HB.out))) : w.heap.size ≤ gb263)); have n5_ := Aside0.mk ((by rw [hg]; exact Nat.ne_of_lt (blk_lt (g := gb262) (o := .cells #[.bool a0_0, .int .i64 a0_1, .int .i64 a0_2, .int .i64 a0_3, .int .i64 a0_4, .int .i64 a0_5, .int .i64 a0_6] 25 (0, 0)) (by (with_reducible repeat (first | refine blk_drewN ?_ _ | refine blk_drew ?_ | refine blk_alloc ?_ _)); exact BK262.out)) : gb262 ≠ gb263)); have n6_ := Aside0.mk ((by rw [hg]; exact Nat.ne_of_gt (blk_lt (g := gb262) (o := .cells #[.bool a0_0, .int .i64 a0_1, .int .i64 a0_2, .int .i64 a0_3, .int .i64 a0_4, .int .i64 a0_5, .int .i64 a0_6] 25 (0, 0)) (by (with_reducible repeat (first | refine blk_drewN ?_ _ | refine blk_drew ?_ | refine blk_alloc ?_ _)); exact BK262.out)) : gb263 ≠ gb262)); clear BK262; clear HB; have BK262 := n0_; have HB := n1_; have BK263 := n2_; have GW263 := n3_; have GE263 := n4_; have NB262_263 := n5_; have NB263_262 := n6_; clear n0_ n1_ n2_ n3_ n4_ n5_ n6_; clear hb hbox hg) | ((with_reducible refine gate_dst (N := 6) rfl ?_); refine box_event ?hg (N := 6) ?hd (cs := #[.int .i64 0, .int .i64 0]) (t := 55) ?hr ?_; (case hd => rfl); (case hg => rfl); (case hr => first | (go_simp; done) | (go_simp; rfl)); intro gb264 hg w10 hbox hb; have n0_ := Aside0.mk (blk_below (g := gb262) (o := .cells #[.bool a0_0, .int .i64 a0_1, .int .i64 a0_2, .int .i64 a0_3, .int .i64 a0_4, .int .i64 a0_5, .int .i64 a0_6] 25 (0, 0)) (by (with_reducible repeat (first | refine blk_drewN ?_ _ | refine blk_drew ?_ | refine blk_alloc ?_ _)); exact BK262.out) hb); have n1_ := Aside0.mk (blk_below (g := gb263) (o := .cells #[.int .i64 a1_0, .int .i64 a1_1] 27 (0, 0)) (by (with_reducible repeat (first | refine blk_drewN ?_ _ | refine blk_drew ?_ | refine blk_alloc ?_ _)); exact BK263.out) hb); have n2_ := Aside0.mk (below_step (by repeat (first | (with_reducible first | exact HB.out | apply below_alloc | apply pw_below_drewN | apply below_drew1 | refine below_set ?_ GE262.out | refine below_set ?_ GE263.out) | exact HB.out)) hb); have n3_ := Aside0.mk (hbox); have n4_ := Aside0.mk ((by rw [hg]; exact (below_size (by repeat (first | (with_reducible first | exact HB.out | apply below_alloc | apply pw_below_drewN | apply below_drew1 | refine below_set ?_ GE262.out | refine below_set ?_ GE263.out) | exact HB.out))) : w.heap.size ≤ gb264)); have n5_ := Aside0.mk ((by rw [hg]; exact (below_size (by repeat (first | (with_reducible first | exact HB.out | apply below_alloc | apply pw_below_drewN | apply below_drew1 | refine below_set ?_ GE262.out | refine below_set ?_ GE263.out) | exact HB.out))) : w.heap.size ≤ gb264)); have n6_ := Aside0.mk ((by rw [hg]; exact Nat.ne_of_lt (blk_lt (g := gb262) (o := .cells #[.bool a0_0, .int .i64 a0_1, .int .i64 a0_2, .int .i64 a0_3, .int .i64 a0_4, .int .i64 a0_5, .int .i64 a0_6] 25 (0, 0)) (by (with_reducible repeat (first | refine blk_drewN ?_ _ | refine blk_drew ?_ | refine blk_alloc ?_ _)); exact BK262.out)) : gb262 ≠ gb264)); have n7_ := Aside0.mk ((by rw [hg]; exact Nat.ne_of_gt (blk_lt (g := gb262) (o := .cells #[.bool a0_0, .int .i64 a0_1, .int .i64 a0_2, .int .i64 a0_3, .int .i64 a0_4, .int .i64 a0_5, .int .i64 a0_6] 25 (0, 0)) (by (with_reducible repeat (first | refine blk_drewN ?_ _ | refine blk_drew ?_ | refine blk_alloc ?_ _)); exact BK262.out)) : gb264 ≠ gb262)); have n8_ := Aside0.mk ((by rw [hg]; exact Nat.ne_of_lt (blk_lt (g := gb263) (o := .cells #[.int .i64 a1_0, .int .i64 a1_1] 27 (0, 0)) (by (with_reducible repeat (first | refine blk_drewN ?_ _ | refine blk_drew ?_ | refine blk_alloc ?_ _)); exact BK263.out)) : gb263 ≠ gb264)); have n9_ := Aside0.mk ((by rw [hg]; exact Nat.ne_of_gt (blk_lt (g := gb263) (o := .cells #[.int .i64 a1_0, .int .i64 a1_1] 27 (0, 0)) (by (with_reducible repeat (first | refine blk_drewN ?_ _ | refine blk_drew ?_ | refine blk_alloc ?_ _)); exact BK263.out)) : gb264 ≠ gb263)); clear BK262; clear BK263; clear HB; have BK262 := n0_; have BK263 := n1_; have HB := n2_; have BK264 := n3_; have GW264 := n4_; have GE264 := n5_; have NB262_264 := n6_; have NB264_262 := n7_; have NB263_264 := n8_; have NB264_263 := n9_; clear n0_ n1_ n2_ n3_ n4_ n5_ n6_ n7_ n8_ n9_; clear hb hbox hg; have hnb11 := NB262_263.out; have hnc11 := NB263_262.out; have hnb12 := NB262_264.out; have hnc12 := NB264_262.out; have hcz13_0 : w10.cell? ⟨gb262, 0, none⟩ = some (.bool a0_0) := (blk_cell BK262.out 0).trans rfl; have hcz13_1 : w10.cell? ⟨gb262, 1, none⟩ = some (.int .i64 a0_1) := (blk_cell BK262.out 1).trans rfl; have hcz13_2 : w10.cell? ⟨gb262, 2, none⟩ = some (.int .i64 a0_2) := (blk_cell BK262.out 2).trans rfl; have hcz13_3 : w10.cell? ⟨gb262, 3, none⟩ = some (.int .i64 a0_3) := (blk_cell BK262.out 3).trans rfl; have hcz13_4 : w10.cell? ⟨gb262, 4, none⟩ = some (.int .i64 a0_4) := (blk_cell BK262.out 4).trans rfl; have hcz13_5 : w10.cell? ⟨gb262, 5, none⟩ = some (.int .i64 a0_5) := (blk_cell BK262.out 5).trans rfl; have hcz13_6 : w10.cell? ⟨gb262, 6, none⟩ = some (.int .i64 a0_6) := (blk_cell BK262.out 6).trans rfl; have hfz13_0 := blk_frozen BK262.out 0; have hfz13_1 := blk_frozen BK262.out 1; have hfz13_2 := blk_frozen BK262.out 2; have hfz13_3 := blk_frozen BK262.out 3; have hfz13_4 := blk_frozen BK262.out 4; have hfz13_5 := blk_frozen BK262.out 5; have hfz13_6 := blk_frozen BK262.out 6; have hnb14 := NB263_264.out; have hnc14 := NB264_263.out; have hcz15_0 : w10.cell? ⟨gb263, 0, none⟩ = some (.int .i64 a1_0) := (blk_cell BK263.out 0).trans rfl; have hcz15_1 : w10.cell? ⟨gb263, 1, none⟩ = some (.int .i64 a1_1) := (blk_cell BK263.out 1).trans rfl; have hfz15_0 := blk_frozen BK263.out 0; have hfz15_1 := blk_frozen BK263.out 1) | ((with_reducible refine gate_callee (f := 24) rfl ?_); refine goesL_ (some 16) rfl rfl Try.func24 (by kernel_rfl) rfl #[.agg #[.bool a0_0, .int .i64 a0_1, .int .i64 a0_2, .int .i64 a0_3, .int .i64 a0_4, .int .i64 a0_5, .int .i64 a0_6], .agg #[.int .i64 a1_0, .int .i64 a1_1], .int .i64 a2] rfl (by (try simp only [List.map_toArray, List.map_cons, List.map_nil]); first | done | rfl | (simp only [List.length_drop, List.length_take]; rfl)) ?_; (with_reducible refine (slotmeshref10_Send.calls k a0_0 a0_1 a0_2 a0_3 a0_4 a0_5 a0_6 a1_0 a1_1 a2 t265 t266 _ A4.out).mono ?_); rintro e w16 ⟨rfl, hb⟩; refine ⟨_, rfl, ?_⟩; have n0_ := Aside0.mk (blk_below (g := gb262) (o := .cells #[.bool a0_0, .int .i64 a0_1, .int .i64 a0_2, .int .i64 a0_3, .int .i64 a0_4, .int .i64 a0_5, .int .i64 a0_6] 25 (0, 0)) (by (with_reducible repeat (first | refine blk_drewN ?_ _ | refine blk_drew ?_ | refine blk_alloc ?_ _)); exact BK262.out) hb); have n1_ := Aside0.mk (blk_below (g := gb263) (o := .cells #[.int .i64 a1_0, .int .i64 a1_1] 27 (0, 0)) (by (with_reducible repeat (first | refine blk_drewN ?_ _ | refine blk_drew ?_ | refine blk_alloc ?_ _)); exact BK263.out) hb); have n2_ := Aside0.mk (blk_below (g := gb264) (o := .cells #[.int .i64 0, .int .i64 0] 55 (0, 0)) (by (with_reducible repeat (first | refine blk_drewN ?_ _ | refine blk_drew ?_ | refine blk_alloc ?_ _)); exact BK264.out) hb); have n3_ := Aside0.mk (below_step (by repeat (first | (with_reducible first | exact HB.out | apply below_alloc | apply pw_below_drewN | apply below_drew1 | refine below_set ?_ GE262.out | refine below_set ?_ GE263.out | refine below_set ?_ GE264.out) | exact HB.out)) hb); clear BK262; clear BK263; clear BK264; clear HB; have BK262 := n0_; have BK263 := n1_; have BK264 := n2_; have HB := n3_; clear n0_ n1_ n2_ n3_; (try clear hb); (try clear hb2); (try clear hk); (try clear hi)))
    have n0_ := Aside0.mk (blk_drew BK262.out)
    have n1_ := Aside0.mk (blk_drew BK263.out)
    have n2_ := Aside0.mk (blk_drew BK264.out)
    have n3_ := Aside0.mk (below_drew1 HB.out)
    clear BK262
    clear BK263
    clear BK264
    clear HB
    have BK262 := n0_
    have BK263 := n1_
    have BK264 := n2_
    have HB := n3_
    clear n0_ n1_ n2_ n3_
    refine start_ (n := 10) (S := fun w' => w'.cell? ⟨gb262, 0, none⟩ = some (.bool a0_0) ∧ w'.cell? ⟨gb262, 1, none⟩ = some (.int .i64 a0_1) ∧ w'.cell? ⟨gb262, 2, none⟩ = some (.int .i64 a0_2) ∧ w'.cell? ⟨gb262, 3, none⟩ = some (.int .i64 a0_3) ∧ w'.cell? ⟨gb262, 4, none⟩ = some (.int .i64 a0_4) ∧ w'.cell? ⟨gb262, 5, none⟩ = some (.int .i64 a0_5) ∧ w'.cell? ⟨gb262, 6, none⟩ = some (.int .i64 a0_6)) (ds := []) #[false, false, false, false, false, false, false, false, false, false] (by kernel_rfl) rfl rfl ⟨(blk_cell BK262.out 0).trans rfl, (blk_cell BK262.out 1).trans rfl, (blk_cell BK262.out 2).trans rfl, (blk_cell BK262.out 3).trans rfl, (blk_cell BK262.out 4).trans rfl, (blk_cell BK262.out 5).trans rfl, (blk_cell BK262.out 6).trans rfl⟩ (fun hHeld => ?_); refine with_tabW slotmeshref10_Listen.tab4 slotmeshref10_Listen.bits4 (fun HT_ HW_ => ?_)
    generalize w16.drew = w17 at BK262 BK263 BK264 HB hHeld ⊢
    refine pure_ (i := 2) (N := some 26) (v := ?_) (a' := ?_) #[false, false, true, false, false, false, false, false, false, false] rfl rfl (any_of HT_.out (by kernel_rfl)) (fun _ _ _ h => h) (Or.inl ⟨by rfl, ?_⟩) ?_ ?_
    rotate_left
    · intro w'
      go_simp
      with_reducible rfl
    rotate_left
    · simp only [Act.put, List.setIfInBounds_toArray, List.set_cons_zero, List.set_cons_succ, i64_w, i32_w]
      rfl
    refine take_ (i := 0) (N := some 24) (v := ?_) (a' := ?_) #[true, false, true, false, false, false, false, false, false, false] rfl rfl (take_ofW HT_.out HW_.out (by kernel_rfl)) (fun _ _ _ h => h) (Or.inl ⟨by rfl, ?_⟩) hHeld ?_ ?_
    rotate_left
    · rintro w' ⟨s0, s1, s2, s3, s4, s5, s6⟩
      go_simp
      with_reducible rfl
    rotate_left
    · simp only [Act.put, List.setIfInBounds_toArray, List.set_cons_zero, List.set_cons_succ, i64_w, i32_w]
      rfl
    refine take_ (i := 1) (N := some 25) (v := ?_) (a' := ?_) #[true, true, true, false, false, false, false, false, false, false] rfl rfl (take_ofW HT_.out HW_.out (by kernel_rfl)) (fun _ _ _ h => h) (Or.inl ⟨by rfl, ?_⟩) hHeld ?_ ?_
    rotate_left
    · rintro w' ⟨s0, s1, s2, s3, s4, s5, s6⟩
      go_simp
      with_reducible rfl
    rotate_left
    · simp only [Act.put, List.setIfInBounds_toArray, List.set_cons_zero, List.set_cons_succ, i64_w, i32_w]
      rfl
    refine one_ (i := 3) (N := some 27) #[true, true, true, true, false, false, false, false, false, false] rfl rfl (one_of HT_.out (by kernel_rfl)) (by decide) (fun K hK => ?_)
    refine goes_ Try.func14 (by kernel_rfl) rfl #[.agg #[.bool a0_0, .int .i64 a0_1, .int .i64 a0_2, .int .i64 a0_3, .int .i64 a0_4, .int .i64 a0_5, .int .i64 a0_6], .int .i64 a2] (by rfl) rfl rfl (by (try simp only [List.map_toArray, List.map_cons, List.map_nil]); first | done | rfl | (simp only [List.length_drop, List.length_take]; rfl)) ?_
    with_reducible refine (slotmeshref10_Own.calls a0_0 a0_1 a0_2 a0_3 a0_4 a0_5 a0_6 a2 t267 _ A6.out).mono ?_
    rintro e w18 ⟨rfl, hb⟩
    refine ⟨_, rfl, ?_⟩
    have n0_ := Aside0.mk (blk_below (g := gb262) (o := .cells #[.bool a0_0, .int .i64 a0_1, .int .i64 a0_2, .int .i64 a0_3, .int .i64 a0_4, .int .i64 a0_5, .int .i64 a0_6] 25 (0, 0)) (by (with_reducible repeat (first | refine blk_drewN ?_ _ | refine blk_drew ?_ | refine blk_alloc ?_ _)); exact BK262.out) hb)
    have n1_ := Aside0.mk (blk_below (g := gb263) (o := .cells #[.int .i64 a1_0, .int .i64 a1_1] 27 (0, 0)) (by (with_reducible repeat (first | refine blk_drewN ?_ _ | refine blk_drew ?_ | refine blk_alloc ?_ _)); exact BK263.out) hb)
    have n2_ := Aside0.mk (blk_below (g := gb264) (o := .cells #[.int .i64 0, .int .i64 0] 55 (0, 0)) (by (with_reducible repeat (first | refine blk_drewN ?_ _ | refine blk_drew ?_ | refine blk_alloc ?_ _)); exact BK264.out) hb)
    have n3_ := Aside0.mk (below_step (by repeat (first | (with_reducible first | exact HB.out | apply below_alloc | apply pw_below_drewN | apply below_drew1 | refine below_set ?_ GE262.out | refine below_set ?_ GE263.out | refine below_set ?_ GE264.out) | exact HB.out)) hb)
    clear BK262
    clear BK263
    clear BK264
    clear HB
    have BK262 := n0_
    have BK263 := n1_
    have BK264 := n2_
    have HB := n3_
    clear n0_ n1_ n2_ n3_
    (try clear hb)
    (try clear hb2)
    (try clear hk)
    (try clear hi)
    refine hK.out _ _ ⟨(blk_cell BK262.out 0).trans rfl, (blk_cell BK262.out 1).trans rfl, (blk_cell BK262.out 2).trans rfl, (blk_cell BK262.out 3).trans rfl, (blk_cell BK262.out 4).trans rfl, (blk_cell BK262.out 5).trans rfl, (blk_cell BK262.out 6).trans rfl⟩ (fun hHeld => ?_)
    clear hK K
    refine norm_ (a' := ?_) ?_ ?_
    rotate_left
    · show Act.put _ (some 27) _ = _
      simp only [Act.put, List.setIfInBounds_toArray, List.set_cons_zero, List.set_cons_succ, i64_w, i32_w]
      rfl
    refine one_ (i := 4) (N := some 28) #[true, true, true, true, true, false, false, false, false, false] rfl rfl (one_of HT_.out (by kernel_rfl)) (by decide) (fun K hK => ?_)
    refine goes_ Try.func45 (by kernel_rfl) rfl #[.agg #[.bool a0_0, .int .i64 a0_1, .int .i64 a0_2, .int .i64 a0_3, .int .i64 a0_4, .int .i64 a0_5, .int .i64 a0_6], .int .i64 t267] (by rfl) rfl rfl (by (try simp only [List.map_toArray, List.map_cons, List.map_nil]); first | done | rfl | (simp only [List.length_drop, List.length_take]; rfl)) ?_
    with_reducible refine (slotmeshref09_Bound.calls k a0_0 a0_1 a0_2 a0_3 a0_4 a0_5 a0_6 t267 t268 t269 _ A7.out).mono ?_
    rintro e w19 ⟨rfl, hb⟩
    refine ⟨_, rfl, ?_⟩
    have n0_ := Aside0.mk (blk_below (g := gb262) (o := .cells #[.bool a0_0, .int .i64 a0_1, .int .i64 a0_2, .int .i64 a0_3, .int .i64 a0_4, .int .i64 a0_5, .int .i64 a0_6] 25 (0, 0)) (by (with_reducible repeat (first | refine blk_drewN ?_ _ | refine blk_drew ?_ | refine blk_alloc ?_ _)); exact BK262.out) hb)
    have n1_ := Aside0.mk (blk_below (g := gb263) (o := .cells #[.int .i64 a1_0, .int .i64 a1_1] 27 (0, 0)) (by (with_reducible repeat (first | refine blk_drewN ?_ _ | refine blk_drew ?_ | refine blk_alloc ?_ _)); exact BK263.out) hb)
    have n2_ := Aside0.mk (blk_below (g := gb264) (o := .cells #[.int .i64 0, .int .i64 0] 55 (0, 0)) (by (with_reducible repeat (first | refine blk_drewN ?_ _ | refine blk_drew ?_ | refine blk_alloc ?_ _)); exact BK264.out) hb)
    have n3_ := Aside0.mk (below_step (by repeat (first | (with_reducible first | exact HB.out | apply below_alloc | apply pw_below_drewN | apply below_drew1 | refine below_set ?_ GE262.out | refine below_set ?_ GE263.out | refine below_set ?_ GE264.out) | exact HB.out)) hb)
    clear BK262
    clear BK263
    clear BK264
    clear HB
    have BK262 := n0_
    have BK263 := n1_
    have BK264 := n2_
    have HB := n3_
    clear n0_ n1_ n2_ n3_
    (try clear hb)
    (try clear hb2)
    (try clear hk)
    (try clear hi)
    refine hK.out _ _ ⟨(blk_cell BK262.out 0).trans rfl, (blk_cell BK262.out 1).trans rfl, (blk_cell BK262.out 2).trans rfl, (blk_cell BK262.out 3).trans rfl, (blk_cell BK262.out 4).trans rfl, (blk_cell BK262.out 5).trans rfl, (blk_cell BK262.out 6).trans rfl⟩ (fun hHeld => ?_)
    clear hK K
    refine norm_ (a' := ?_) ?_ ?_
    rotate_left
    · show Act.put _ (some 28) _ = _
      simp only [Act.put, List.setIfInBounds_toArray, List.set_cons_zero, List.set_cons_succ, i64_w, i32_w]
      rfl
    refine pure_ (i := 5) (N := some 23) (v := ?_) (a' := ?_) #[true, true, true, true, true, true, false, false, false, false] rfl rfl (any_of HT_.out (by kernel_rfl)) (fun _ _ _ h => h) (Or.inl ⟨by rfl, ?_⟩) ?_ ?_
    rotate_left
    · intro w'
      go_simp
      with_reducible rfl
    rotate_left
    · simp only [Act.put, List.setIfInBounds_toArray, List.set_cons_zero, List.set_cons_succ, i64_w, i32_w]
      rfl
    refine pure_ (i := 6) (N := some 29) (v := ?_) (a' := ?_) #[true, true, true, true, true, true, true, false, false, false] rfl rfl (any_of HT_.out (by kernel_rfl)) (fun _ _ _ h => h) (Or.inl ⟨by rfl, ?_⟩) ?_ ?_
    rotate_left
    · intro w'
      go_simp
      with_reducible rfl
    rotate_left
    · simp only [Act.put, List.setIfInBounds_toArray, List.set_cons_zero, List.set_cons_succ, i64_w, i32_w]
      rfl
    refine pure_ (i := 7) (N := some 30) (v := ?_) (a' := ?_) #[true, true, true, true, true, true, true, true, false, false] rfl rfl (any_of HT_.out (by kernel_rfl)) (fun _ _ _ h => h) (Or.inl ⟨by rfl, ?_⟩) ?_ ?_
    rotate_left
    · intro w'
      go_simp
      with_reducible rfl
    rotate_left
    · simp only [Act.put, List.setIfInBounds_toArray, List.set_cons_zero, List.set_cons_succ, i64_w, i32_w]
      rfl
    refine pure_ (i := 8) (N := some 10) (v := ?_) (a' := ?_) #[true, true, true, true, true, true, true, true, true, false] rfl rfl (any_of HT_.out (by kernel_rfl)) (fun _ _ _ h => h) (Or.inl ⟨by rfl, ?_⟩) ?_ ?_
    rotate_left
    · intro w'
      go_simp
      with_reducible rfl
    rotate_left
    · simp only [Act.put, List.setIfInBounds_toArray, List.set_cons_zero, List.set_cons_succ, i64_w, i32_w]
      rfl
    refine pure_ (i := 9) (N := some 11) (v := ?_) (a' := ?_) #[true, true, true, true, true, true, true, true, true, true] rfl rfl (any_of HT_.out (by kernel_rfl)) (fun _ _ _ h => h) (Or.inl ⟨by rfl, ?_⟩) ?_ ?_
    rotate_left
    · intro w'
      go_simp
      with_reducible rfl
    rotate_left
    · simp only [Act.put, List.setIfInBounds_toArray, List.set_cons_zero, List.set_cons_succ, i64_w, i32_w]
      rfl
    refine done_ (done_of HT_.out (by kernel_rfl)) ?_
    have hcz20_0 : w19.cell? ⟨gb264, 0, none⟩ = some (.int .i64 0) := (blk_cell BK264.out 0).trans rfl
    have hcz20_1 : w19.cell? ⟨gb264, 1, none⟩ = some (.int .i64 0) := (blk_cell BK264.out 1).trans rfl
    have hfz20_0 := blk_frozen BK264.out 0
    have hfz20_1 := blk_frozen BK264.out 1
    try go_wp2
    refine bodyPost_ret (results_ct rfl _ _ gb264 55 #[.int .i64 (wrap64 ((wrap64 (t265 - 2004)) - t268)), .int .i64 (wrap64 ((wrap64 (t265 + 2004)) + t268))] (0, 0) _ rfl (by (with_reducible repeat (first | refine blk_drewN ?_ _ | refine blk_drew ?_ | refine blk_alloc ?_ _)); refine blk_put (cs := #[.int .i64 (wrap64 ((wrap64 (t265 - 2004)) - t268)), .int .i64 0]) ?_ 1 _ rfl; (with_reducible repeat (first | refine blk_drewN ?_ _ | refine blk_drew ?_ | refine blk_alloc ?_ _)); refine blk_put (cs := #[.int .i64 0, .int .i64 0]) ?_ 0 _ rfl; (with_reducible repeat (first | refine blk_drewN ?_ _ | refine blk_drew ?_ | refine blk_alloc ?_ _)); exact BK264.out) Try.underlying55 rfl (by kernel_rfl)) rfl ?_
    exact ⟨by first | rfl | (simp [errW_none, errW_some] <;> rfl) | (simp [*, errW_none, errW_some] <;> rfl), by repeat (first | (with_reducible first | exact HB.out | apply below_alloc | apply pw_below_drewN | apply below_drew1 | refine below_set ?_ GE262.out | refine below_set ?_ GE263.out | refine below_set ?_ GE264.out) | exact HB.out)⟩
  · rw [if_neg c5] at H
    have c5b0 : (t266 == 0) = false := beq_eq_false_iff_ne.mpr c5
    have c5b1 : (t266 != 0) = true := bne_iff_ne.mpr c5
    simp only [Option.some.injEq, Prod.mk.injEq] at H
    obtain ⟨rfl, rfl, rfl⟩ := H
    go_enter Try.func26, Try.ntmps26
    go_wp2_with (first | ((with_reducible refine gate_dst (N := 3) rfl ?_); refine box_event ?hg (N := 3) ?hd (cs := #[.bool a0_0, .int .i64 a0_1, .int .i64 a0_2, .int .i64 a0_3, .int .i64 a0_4, .int .i64 a0_5, .int .i64 a0_6]) (t := 25) ?hr ?_; (case hd => rfl); (case hg => rfl); (case hr => first | (go_simp; done) | (go_simp; rfl)); intro gb262 hg w21 hbox hb; have n0_ := Aside0.mk (below_step (by repeat (first | (with_reducible first | exact HB.out | apply below_alloc | apply pw_below_drewN | apply below_drew1) | exact HB.out)) hb); have n1_ := Aside0.mk (hbox); have n2_ := Aside0.mk ((by rw [hg]; exact (below_size (by repeat (first | (with_reducible first | exact HB.out | apply below_alloc | apply pw_below_drewN | apply below_drew1) | exact HB.out))) : w.heap.size ≤ gb262)); have n3_ := Aside0.mk ((by rw [hg]; exact (below_size (by repeat (first | (with_reducible first | exact HB.out | apply below_alloc | apply pw_below_drewN | apply below_drew1) | exact HB.out))) : w.heap.size ≤ gb262)); clear HB; have HB := n0_; have BK262 := n1_; have GW262 := n2_; have GE262 := n3_; clear n0_ n1_ n2_ n3_; clear hb hbox hg) | ((with_reducible refine gate_dst (N := 4) rfl ?_); refine box_event ?hg (N := 4) ?hd (cs := #[.int .i64 a1_0, .int .i64 a1_1]) (t := 27) ?hr ?_; (case hd => rfl); (case hg => rfl); (case hr => first | (go_simp; done) | (go_simp; rfl)); intro gb263 hg w22 hbox hb; have n0_ := Aside0.mk (blk_below (g := gb262) (o := .cells #[.bool a0_0, .int .i64 a0_1, .int .i64 a0_2, .int .i64 a0_3, .int .i64 a0_4, .int .i64 a0_5, .int .i64 a0_6] 25 (0, 0)) (by (with_reducible repeat (first | refine blk_drewN ?_ _ | refine blk_drew ?_ | refine blk_alloc ?_ _)); exact BK262.out) hb); have n1_ := Aside0.mk (below_step (by repeat (first | (with_reducible first | exact HB.out | apply below_alloc | apply pw_below_drewN | apply below_drew1 | refine below_set ?_ GE262.out) | exact HB.out)) hb); have n2_ := Aside0.mk (hbox); have n3_ := Aside0.mk ((by rw [hg]; exact (below_size (by repeat (first | (with_reducible first | exact HB.out | apply below_alloc | apply pw_below_drewN | apply below_drew1 | refine below_set ?_ GE262.out) | exact HB.out))) : w.heap.size ≤ gb263)); have n4_ := Aside0.mk ((by rw [hg]; exact (below_size (by repeat (first | (with_reducible first | exact HB.out | apply below_alloc | apply pw_below_drewN | apply below_drew1 | refine below_set ?_ GE262.out) | exact HB.out))) : w.heap.size ≤ gb263)); have n5_ := Aside0.mk ((by rw [hg]; exact Nat.ne_of_lt (blk_lt (g := gb262) (o := .cells #[.bool a0_0, .int .i64 a0_1, .int .i64 a0_2, .int .i64 a0_3, .int .i64 a0_4, .int .i64 a0_5, .int .i64 a0_6] 25 (0, 0)) (by (with_reducible repeat (first | refine blk_drewN ?_ _ | refine blk_drew ?_ | refine blk_alloc ?_ _)); exact BK262.out)) : gb262 ≠ gb263)); have n6_ := Aside0.mk ((by rw [hg]; exact Nat.ne_of_gt (blk_lt (g := gb262) (o := .cells #[.bool a0_0, .int .i64 a0_1, .int .i64 a0_2, .int .i64 a0_3, .int .i64 a0_4, .int .i64 a0_5, .int .i64 a0_6] 25 (0, 0)) (by (with_reducible repeat (first | refine blk_drewN ?_ _ | refine blk_drew ?_ | refine blk_alloc ?_ _)); exact BK262.out)) : gb263 ≠ gb262)); clear BK262; clear HB; have BK262 := n0_; have HB := n1_; have BK263 := n2_; have GW263 := n3_; have GE263 := n4_; have NB262_263 := n5_; have NB263_262 := n6_; clear n0_ n1_ n2_ n3_ n4_ n5_ n6_; clear hb hbox hg) | ((with_reducible refine gate_dst (N := 6) rfl ?_); refine box_event ?hg (N := 6) ?hd (cs := #[.int .i64 0, .int .i64 0]) (t := 55) ?hr ?_; (case hd => rfl); (case hg => rfl); (case hr => first | (go_simp; done) | (go_simp; rfl)); intro gb264 hg w23 hbox hb; have n0_ := Aside0.mk (blk_below (g := gb262) (o := .cells #[.bool a0_0, .int .i64 a0_1, .int .i64 a0_2, .int .i64 a0_3, .int .i64 a0_4, .int .i64 a0_5, .int .i64 a0_6] 25 (0, 0)) (by (with_reducible repeat (first | refine blk_drewN ?_ _ | refine blk_drew ?_ | refine blk_alloc ?_ _)); exact BK262.out) hb); have n1_ := Aside0.mk (blk_below (g := gb263) (o := .cells #[.int .i64 a1_0, .int .i64 a1_1] 27 (0, 0)) (by (with_reducible repeat (first | refine blk_drewN ?_ _ | refine blk_drew ?_ | refine blk_alloc ?_ _)); exact BK263.out) hb); have n2_ := Aside0.mk (below_step (by repeat (first | (with_reducible first | exact HB.out | apply below_alloc | apply pw_below_drewN | apply below_drew1 | refine below_set ?_ GE262.out | refine below_set ?_ GE263.out) | exact HB.out)) hb); have n3_ := Aside0.mk (hbox); have n4_ := Aside0.mk ((by rw [hg]; exact (below_size (by repeat (first | (with_reducible first | exact HB.out | apply below_alloc | apply pw_below_drewN | apply below_drew1 | refine below_set ?_ GE262.out | refine below_set ?_ GE263.out) | exact HB.out))) : w.heap.size ≤ gb264)); have n5_ := Aside0.mk ((by rw [hg]; exact (below_size (by repeat (first | (with_reducible first | exact HB.out | apply below_alloc | apply pw_below_drewN | apply below_drew1 | refine below_set ?_ GE262.out | refine below_set ?_ GE263.out) | exact HB.out))) : w.heap.size ≤ gb264)); have n6_ := Aside0.mk ((by rw [hg]; exact Nat.ne_of_lt (blk_lt (g := gb262) (o := .cells #[.bool a0_0, .int .i64 a0_1, .int .i64 a0_2, .int .i64 a0_3, .int .i64 a0_4, .int .i64 a0_5, .int .i64 a0_6] 25 (0, 0)) (by (with_reducible repeat (first | refine blk_drewN ?_ _ | refine blk_drew ?_ | refine blk_alloc ?_ _)); exact BK262.out)) : gb262 ≠ gb264)); have n7_ := Aside0.mk ((by rw [hg]; exact Nat.ne_of_gt (blk_lt (g := gb262) (o := .cells #[.bool a0_0, .int .i64 a0_1, .int .i64 a0_2, .int .i64 a0_3, .int .i64 a0_4, .int .i64 a0_5, .int .i64 a0_6] 25 (0, 0)) (by (with_reducible repeat (first | refine blk_drewN ?_ _ | refine blk_drew ?_ | refine blk_alloc ?_ _)); exact BK262.out)) : gb264 ≠ gb262)); have n8_ := Aside0.mk ((by rw [hg]; exact Nat.ne_of_lt (blk_lt (g := gb263) (o := .cells #[.int .i64 a1_0, .int .i64 a1_1] 27 (0, 0)) (by (with_reducible repeat (first | refine blk_drewN ?_ _ | refine blk_drew ?_ | refine blk_alloc ?_ _)); exact BK263.out)) : gb263 ≠ gb264)); have n9_ := Aside0.mk ((by rw [hg]; exact Nat.ne_of_gt (blk_lt (g := gb263) (o := .cells #[.int .i64 a1_0, .int .i64 a1_1] 27 (0, 0)) (by (with_reducible repeat (first | refine blk_drewN ?_ _ | refine blk_drew ?_ | refine blk_alloc ?_ _)); exact BK263.out)) : gb264 ≠ gb263)); clear BK262; clear BK263; clear HB; have BK262 := n0_; have BK263 := n1_; have HB := n2_; have BK264 := n3_; have GW264 := n4_; have GE264 := n5_; have NB262_264 := n6_; have NB264_262 := n7_; have NB263_264 := n8_; have NB264_263 := n9_; clear n0_ n1_ n2_ n3_ n4_ n5_ n6_ n7_ n8_ n9_; clear hb hbox hg; have hnb24 := NB262_263.out; have hnc24 := NB263_262.out; have hnb25 := NB262_264.out; have hnc25 := NB264_262.out; have hcz26_0 : w23.cell? ⟨gb262, 0, none⟩ = some (.bool a0_0) := (blk_cell BK262.out 0).trans rfl; have hcz26_1 : w23.cell? ⟨gb262, 1, none⟩ = some (.int .i64 a0_1) := (blk_cell BK262.out 1).trans rfl; have hcz26_2 : w23.cell? ⟨gb262, 2, none⟩ = some (.int .i64 a0_2) := (blk_cell BK262.out 2).trans rfl; have hcz26_3 : w23.cell? ⟨gb262, 3, none⟩ = some (.int .i64 a0_3) := (blk_cell BK262.out 3).trans rfl; have hcz26_4 : w23.cell? ⟨gb262, 4, none⟩ = some (.int .i64 a0_4) := (blk_cell BK262.out 4).trans rfl; have hcz26_5 : w23.cell? ⟨gb262, 5, none⟩ = some (.int .i64 a0_5) := (blk_cell BK262.out 5).trans rfl; have hcz26_6 : w23.cell? ⟨gb262, 6, none⟩ = some (.int .i64 a0_6) := (blk_cell BK262.out 6).trans rfl; have hfz26_0 := blk_frozen BK262.out 0; have hfz26_1 := blk_frozen BK262.out 1; have hfz26_2 := blk_frozen BK262.out 2; have hfz26_3 := blk_frozen BK262.out 3; have hfz26_4 := blk_frozen BK262.out 4; have hfz26_5 := blk_frozen BK262.out 5; have hfz26_6 := blk_frozen BK262.out 6; have hnb27 := NB263_264.out; have hnc27 := NB264_263.out; have hcz28_0 : w23.cell? ⟨gb263, 0, none⟩ = some (.int .i64 a1_0) := (blk_cell BK263.out 0).trans rfl; have hcz28_1 : w23.cell? ⟨gb263, 1, none⟩ = some (.int .i64 a1_1) := (blk_cell BK263.out 1).trans rfl; have hfz28_0 := blk_frozen BK263.out 0; have hfz28_1 := blk_frozen BK263.out 1) | ((with_reducible refine gate_callee (f := 24) rfl ?_); refine goesL_ (some 16) rfl rfl Try.func24 (by kernel_rfl) rfl #[.agg #[.bool a0_0, .int .i64 a0_1, .int .i64 a0_2, .int .i64 a0_3, .int .i64 a0_4, .int .i64 a0_5, .int .i64 a0_6], .agg #[.int .i64 a1_0, .int .i64 a1_1], .int .i64 a2] rfl (by (try simp only [List.map_toArray, List.map_cons, List.map_nil]); first | done | rfl | (simp only [List.length_drop, List.length_take]; rfl)) ?_; (with_reducible refine (slotmeshref10_Send.calls k a0_0 a0_1 a0_2 a0_3 a0_4 a0_5 a0_6 a1_0 a1_1 a2 t265 t266 _ A4.out).mono ?_); rintro e w29 ⟨rfl, hb⟩; refine ⟨_, rfl, ?_⟩; have n0_ := Aside0.mk (blk_below (g := gb262) (o := .cells #[.bool a0_0, .int .i64 a0_1, .int .i64 a0_2, .int .i64 a0_3, .int .i64 a0_4, .int .i64 a0_5, .int .i64 a0_6] 25 (0, 0)) (by (with_reducible repeat (first | refine blk_drewN ?_ _ | refine blk_drew ?_ | refine blk_alloc ?_ _)); exact BK262.out) hb); have n1_ := Aside0.mk (blk_below (g := gb263) (o := .cells #[.int .i64 a1_0, .int .i64 a1_1] 27 (0, 0)) (by (with_reducible repeat (first | refine blk_drewN ?_ _ | refine blk_drew ?_ | refine blk_alloc ?_ _)); exact BK263.out) hb); have n2_ := Aside0.mk (blk_below (g := gb264) (o := .cells #[.int .i64 0, .int .i64 0] 55 (0, 0)) (by (with_reducible repeat (first | refine blk_drewN ?_ _ | refine blk_drew ?_ | refine blk_alloc ?_ _)); exact BK264.out) hb); have n3_ := Aside0.mk (below_step (by repeat (first | (with_reducible first | exact HB.out | apply below_alloc | apply pw_below_drewN | apply below_drew1 | refine below_set ?_ GE262.out | refine below_set ?_ GE263.out | refine below_set ?_ GE264.out) | exact HB.out)) hb); clear BK262; clear BK263; clear BK264; clear HB; have BK262 := n0_; have BK263 := n1_; have BK264 := n2_; have HB := n3_; clear n0_ n1_ n2_ n3_; (try clear hb); (try clear hb2); (try clear hk); (try clear hi); have hcz30_0 : w29.cell? ⟨gb264, 0, none⟩ = some (.int .i64 0) := (blk_cell BK264.out 0).trans rfl; have hcz30_1 : w29.cell? ⟨gb264, 1, none⟩ = some (.int .i64 0) := (blk_cell BK264.out 1).trans rfl; have hfz30_0 := blk_frozen BK264.out 0; have hfz30_1 := blk_frozen BK264.out 1))
    refine bodyPost_ret (results_ct rfl _ _ gb264 55 #[.int .i64 0, .int .i64 0] (0, 0) _ rfl (by (with_reducible repeat (first | refine blk_drewN ?_ _ | refine blk_drew ?_ | refine blk_alloc ?_ _)); refine blk_put (cs := #[.int .i64 0, .int .i64 0]) ?_ 1 _ rfl; (with_reducible repeat (first | refine blk_drewN ?_ _ | refine blk_drew ?_ | refine blk_alloc ?_ _)); refine blk_put (cs := #[.int .i64 0, .int .i64 0]) ?_ 0 _ rfl; (with_reducible repeat (first | refine blk_drewN ?_ _ | refine blk_drew ?_ | refine blk_alloc ?_ _)); exact BK264.out) Try.underlying55 rfl (by kernel_rfl)) rfl ?_
    exact ⟨by first | rfl | (simp [errW_none, errW_some] <;> rfl) | (simp [*, errW_none, errW_some] <;> rfl), by repeat (first | (with_reducible first | exact HB.out | apply below_alloc | apply pw_below_drewN | apply below_drew1 | refine below_set ?_ GE262.out | refine below_set ?_ GE263.out | refine below_set ?_ GE264.out) | exact HB.out)⟩
end Go.Proofs.Ytdpihbhkghjclaa.P
end
section
/- Plain laws of the reference functions of layer 10. Conditions: none. -/
namespace Go.Proofs.Ytdpihbhkghjclaa.P
open Go.RowKit Go.Proofs.YtdpihbhkghjclaaW.PrintWords Go.Proofs.YtdpihbhkghjclaaW.PrintLast Go.Proofs.YtdpihbhkghjclaaW.PrintMore
set_option linter.unusedVariables false
set_option linter.unusedSimpArgs false
theorem rcvalid_eq (off d : Int) : slotmeshref07_Valid.f off d = some (decide (CV off d)) := by
  unfold slotmeshref07_Valid.f CV
  by_cases h1 : off ≥ -1000000000 <;> by_cases h2 : off ≤ 1000000000 <;> by_cases h3 : d ≥ -50 <;> by_cases h4 : d ≤ 50 <;> simp [h1, h2, h3, h4] <;> omega
theorem rdown_eq (p : Int) (hp : -4000000000000000000 ≤ p ∧ p ≤ 4000000000000000000) : slotmeshref07_down.f p = some (p / 1000000) := by
  unfold slotmeshref07_down.f
  by_cases c : p ≥ 0
  · rw [if_pos c, Int.tdiv_eq_ediv_of_nonneg (by omega), w64 (by omega)]
  · rw [if_neg c, w64 (x := -p) (by omega), w64 (x := -p + 999999) (by omega), Int.tdiv_eq_ediv_of_nonneg (by omega), w64 (x := (-p + 999999) / 1000000) (by omega), w64 (by omega)]
    congr 1
    omega
theorem rat_eq {off d t : Int} (hv : CV off d) (h0 : 0 ≤ t) (h1 : t ≤ 10000000000000) : slotmeshref07_At.f off d t = some (AT off d t) := by
  unfold CV at hv
  have hb := mul_bd hv.2.2.1 hv.2.2.2 h0
  unfold slotmeshref07_At.f AT
  rw [w64 (x := d * t) (by omega), rdown_eq _ (by omega)]
  simp only [Option.bind_some]
  rw [w64 (x := t + off) (by omega), w64 (by omega)]
theorem rfirst_l0 {off d : Int} (hv : CV off d) (x r : Int) (hl : LT off d x r) : ∀ (j : Nat) (n : Int), j ≤ 44 → 0 ≤ n → n ≤ r → r < n + 2 ^ (j + 1) → slotmeshref10_first.l0 (j + 2) x n (2 ^ j) off d = some r := by
  obtain ⟨l1, l2, l3⟩ := hl
  have key : ∀ (n s : Int), 0 ≤ n → 0 < s → s ≤ 17592186044416 → n ≤ r → (if n + s ≤ 10000000000001 then (AT off d (n + s - 1) < x ↔ n + s ≤ r) else ¬ n + s ≤ r) := by
    intro n s h0 h1 h2 h3
    split
    · constructor
      · intro q
        by_cases c : n + s ≤ r
        · exact c
        · have := l3 (by omega)
          have := AT_mono hv (show r ≤ n + s - 1 by omega)
          omega
      · intro q
        exact l2 _ (by omega) (by omega)
    · omega
  intro j
  induction j with
  | zero =>
    intro n hj h0 h1 h2
    have k1 := key n 1 h0 (by omega) (by omega) h1
    simp at h2
    simp only [Int.pow_zero]
    rw [slotmeshref10_first.l0, if_pos (by omega), w64 (x := n + 1) (by omega), w64 (x := n + 1 - 1) (by omega)]
    have e : wrap64 (Int.tdiv 1 2) = 0 := by kernel_rfl
    rw [e]
    by_cases c : n + 1 ≤ 10000000000001
    · rw [if_pos c] at k1 ⊢
      rw [rat_eq hv (by omega) (by omega)]
      simp only [Option.bind_some]
      by_cases c2 : AT off d (n + 1 - 1) < x
      · have := k1.1 c2
        rw [if_pos c2, slotmeshref10_first.l0, if_neg (by omega)]
        congr 1
        omega
      · have : ¬ n + 1 ≤ r := fun q => c2 (k1.2 q)
        rw [if_neg c2, slotmeshref10_first.l0, if_neg (by omega)]
        congr 1
        omega
    · rw [if_neg c] at k1 ⊢
      rw [slotmeshref10_first.l0, if_neg (by omega)]
      congr 1
      omega
  | succ j ih =>
    intro n hj h0 h1 h2
    have hp : (2 : Int) ^ (j + 1) = 2 ^ j * 2 := Int.pow_succ 2 j
    have hq : (2 : Int) ^ (j + 1 + 1) = 2 ^ j * 2 * 2 := by rw [Int.pow_succ, hp]
    have hs : (0 : Int) < 2 ^ j := Int.pow_pos (by omega)
    have hm : (2 : Int) ^ j ≤ 8796093022208 := by
      have : (2 : Nat) ^ j ≤ 2 ^ 43 := Nat.pow_le_pow_right (by omega) (by omega)
      have h4 : ((2 ^ j : Nat) : Int) ≤ ((2 ^ 43 : Nat) : Int) := Int.ofNat_le.2 this
      have h5 : ((2 ^ j : Nat) : Int) = (2 : Int) ^ j := by simp
      have h6 : ((2 ^ 43 : Nat) : Int) = 8796093022208 := by decide
      omega
    rw [hq] at h2
    rw [hp]
    have ih' := fun n' => ih n' (by omega)
    rw [hp] at ih'
    generalize (2 : Int) ^ j = s at *
    have k1 := key n (s * 2) h0 (by omega) (by omega) h1
    have e : wrap64 (Int.tdiv (s * 2) 2) = s := by rw [Int.tdiv_eq_ediv_of_nonneg (by omega), w64 (by omega)]; omega
    rw [slotmeshref10_first.l0, if_pos (by omega), w64 (x := n + s * 2) (by omega), w64 (x := n + s * 2 - 1) (by omega), e]
    by_cases c : n + s * 2 ≤ 10000000000001
    · rw [if_pos c] at k1 ⊢
      rw [rat_eq hv (by omega) (by omega)]
      simp only [Option.bind_some]
      by_cases c2 : AT off d (n + s * 2 - 1) < x
      · have := k1.1 c2
        rw [if_pos c2]
        exact ih' _ (by omega) (by omega) (by omega)
      · have : ¬ n + s * 2 ≤ r := fun q => c2 (k1.2 q)
        rw [if_neg c2]
        exact ih' _ (by omega) (by omega) (by omega)
    · rw [if_neg c] at k1 ⊢
      exact ih' _ (by omega) (by omega) (by omega)
theorem rfirst_eq {off d : Int} (hv : CV off d) (x : Int) (k : Nat) : slotmeshref10_first.f (k + 46) off d x = some (FT off d x) := by
  unfold slotmeshref10_first.f
  have hl := (FT_spec hv x).1
  have e45 : (2 : Int) ^ (44 + 1) = 35184372088832 := by decide
  have h := rfirst_l0 hv x _ hl 44 0 (by omega) (by omega) hl.1.1 (by have := hl.1.2; omega)
  have e : (2 : Int) ^ 44 = 17592186044416 := by decide
  rw [e] at h
  exact at_rounds (g := fun k => slotmeshref10_first.l0 k x 0 17592186044416 off d) (fun k => slotmeshref10_first.mono_l k x 0 17592186044416 off d) (show 44 + 2 ≤ k + 46 by omega) h
theorem rSend_eq (k : Nat) (sy : Bool) (l h a ho so he off d asn : Int) : slotmeshref10_Send.f (k + 47) sy l h a ho so he off d asn = some (if (SL sy l h a ho so he off d asn).2.2 = 0 then ((SL sy l h a ho so he off d asn).1, 0) else (0, (SL sy l h a ho so he off d asn).2.2)) := by
  unfold slotmeshref10_Send.f
  rw [rcvalid_eq, show k + 47 = (k + 46) + 1 from rfl, rsvalid_eq]
  simp only [Option.bind_some]
  have bad : ∀ b, b = true → slotmeshref10_Send.j0 (k + 46 + 1) asn b sy l h a ho so he off d = some (0, 1) := by
    intro b e; subst e; simp [slotmeshref10_Send.j0]
  by_cases hP : CV off d ∧ (0 ≤ asn ∧ asn < 1000000000) ∧ SV sy l h a ho so he
  · obtain ⟨c1, c2, c3⟩ := hP
    unfold SL
    rw [if_pos (show CV off d ∧ (0 ≤ asn ∧ asn < 1000000000) ∧ SV sy l h a ho so he from ⟨c1, c2, c3⟩), decide_eq_true c1, decide_eq_true c3, if_pos rfl, if_pos rfl, if_neg (show ¬ asn < 0 by omega), decide_eq_false (show ¬ asn > 999999999 by omega)]
    simp only [slotmeshref10_Send.j0, Bool.false_eq_true, if_false]
    cases sy
    · simp
    · simp only [if_true]
      have hw := OW_bound c3 (show 0 ≤ asn ∧ asn ≤ 1000000000 by omega)
      rw [Own_eq _ _ _ _ _ _ _ _ c3 (by omega)]
      simp only [Option.bind_some]
      rw [show k + 46 = (k + 45) + 1 from rfl, rbound_eq]
      simp only [Option.bind_some]
      by_cases c5 : (BO true l h a ho so he (OW l h ho asn)).2 = 0
      · rw [if_pos c5, if_pos c5, show k + 45 + 1 = k + 46 from rfl, rfirst_eq c1]
        simp only [Option.bind_some]
        have hf := (FT_spec c1 (OW l h ho asn)).1.1
        by_cases c6 : FT off d (OW l h ho asn) > 10000000000000
        · rw [if_pos c6, if_pos c6]; rfl
        · rw [if_neg c6, if_neg c6, w64 (x := 10000 * asn) (by omega), w64 (by omega), Int.mul_comm]; rfl
      · rw [if_neg c5, if_neg c5, if_neg c5]
  · unfold SL
    rw [if_neg hP]
    by_cases c1 : CV off d
    · by_cases c3 : SV sy l h a ho so he
      · rw [decide_eq_true c1, decide_eq_true c3, if_pos rfl, if_pos rfl]
        by_cases c4 : asn < 0
        · rw [if_pos c4, bad true rfl]; rfl
        · rw [if_neg c4, bad _ (decide_eq_true (show asn > 999999999 from by
            by_cases q : asn > 999999999
            · exact q
            · exact absurd ⟨c1, ⟨by omega, by omega⟩, c3⟩ hP))]; rfl
      · rw [decide_eq_true c1, decide_eq_false c3, if_pos rfl, if_neg (by decide), bad true rfl]; rfl
    · rw [decide_eq_false c1, if_neg (by decide), bad true rfl]; rfl
theorem rListen_eq (k : Nat) (sy : Bool) (l h a ho so he off d asn : Int) : slotmeshref10_Listen.f (k + 47) sy l h a ho so he off d asn = some (if (SL sy l h a ho so he off d asn).2.2 = 0 then ((SL sy l h a ho so he off d asn).1 - (2004 + (SL sy l h a ho so he off d asn).2.1), (SL sy l h a ho so he off d asn).1 + (2004 + (SL sy l h a ho so he off d asn).2.1), 0) else (0, 0, (SL sy l h a ho so he off d asn).2.2)) := by
  unfold slotmeshref10_Listen.f
  rw [rSend_eq]
  simp only [Option.bind_some]
  by_cases c : (SL sy l h a ho so he off d asn).2.2 = 0
  · obtain ⟨c1, c2, c3, c4, c5, c6, e⟩ := SL_ok c
    have hb := BO_range (sy := true) (l := l) (h := h) (a := a) (ho := ho) (so := so) (he := he) (now := OW l h ho asn)
    have hf := (FT_spec c1 (OW l h ho asn)).1.1
    rw [if_pos c, if_pos c, e, if_pos rfl, Own_eq _ _ _ _ _ _ _ _ c3 (by omega)]
    subst c4
    simp only [Option.bind_some]
    rw [show k + 47 = (k + 46) + 1 from rfl, rbound_eq]
    simp only [Option.bind_some]
    generalize (BO true l h a ho so he (OW l h ho asn)).1 = b at *
    generalize FT off d (OW l h ho asn) = f at *
    rw [w64 (x := f - asn * 10000 - 2004) (by omega), w64 (x := f - asn * 10000 + 2004) (by omega), w64 (by omega), w64 (by omega)]
    congr 2
    · omega
    · congr 1; omega
  · rw [if_neg c, if_neg c, if_neg c]
end Go.Proofs.Ytdpihbhkghjclaa.P
end
