/- A claim's own texts, laid together by wip/zip.py without what the claim does not use. Conditions: none. -/
import Derived.Test.YtdpihbhkghjclaaZgpx0
import Derived.Test.YtdpihbhkghjclaaZgpx26
import Derived.Test.YtdpihbhkghjclaaZgpx32
import Derived.Test.YtdpihbhkghjclaaZgpguardlaws
section
/- The Go functions of this claim as Lean functions, and the proofs that their calls answer so: written by wip/myprint.py over the kit's printer, hand-proved contracts laid in. Conditions: none. -/
namespace Go.Proofs.Ytdpihbhkghjclaa.P
open Go.RowKit Go.Proofs.YtdpihbhkghjclaaW.PrintWords Go.Proofs.YtdpihbhkghjclaaW.PrintLast Go.Proofs.YtdpihbhkghjclaaW.PrintMore
attribute [local go_sem] max2_int min2_int max_two min_two max_three min_three max_four min_four   -- for this text's walks alone
set_option linter.unusedVariables false
set_option linter.unusedSimpArgs false
/-! ### slotmeshlaw10_GuardSlots: function 10 -/
def slotmeshlaw10_GuardSlots.j0 : Nat → Int → Bool → Bool → Bool → Int → Int → Int → Int → Int → Int → Int → Int → Option (Bool)
  | 0, _, _, _, _, _, _, _, _, _, _, _, _ => none
  | k + 1, x2, x7, x19, x370000, x370001, x370002, x370003, x370004, x370005, x370006, x371000, x371001 => if x19 = true then (some x7) else ((guard_Send.f k x370000 x370001 x370002 x370003 x370004 x370005 x370006 x371000 x371001 x2).bind fun bt372 => ((guard_Send.f k x370000 x370001 x370002 x370003 x370004 x370005 x370006 x371000 x371001 (wrap64 (x2 + 1))).bind fun bt374 => (if bt372.2 = 0 then (if bt374.2 = 0 then (if bt372.1 = (wrap64 ((wrap64 (-x2)) * 10000)) then (some x7) else (if x7 = true then (if (wrap64 ((wrap64 (bt374.1 + 10000)) - bt372.1)) ≥ 9998 then (some (decide ((wrap64 ((wrap64 (bt374.1 + 10000)) - bt372.1)) ≤ 10002))) else (none)) else (none))) else (some x7)) else (some x7))))
def slotmeshlaw10_GuardSlots.f (k : Nat) (a0_0 : Bool) (a0_1 : Int) (a0_2 : Int) (a0_3 : Int) (a0_4 : Int) (a0_5 : Int) (a0_6 : Int) (a1_0 : Int) (a1_1 : Int) (a2 : Int) : Option (Bool) := (slotmeshlaw10_head.f k).bind fun t371 => (if a2 < 0 then (slotmeshlaw10_GuardSlots.j0 k a2 t371 true a0_0 a0_1 a0_2 a0_3 a0_4 a0_5 a0_6 a1_0 a1_1) else (slotmeshlaw10_GuardSlots.j0 k a2 t371 (decide (a2 ≥ 999999999)) a0_0 a0_1 a0_2 a0_3 a0_4 a0_5 a0_6 a1_0 a1_1))
set_option maxHeartbeats 8000000 in
set_option maxRecDepth 100000 in
theorem slotmeshlaw10_GuardSlots.calls (k : Nat) (a0_0 : Bool) (a0_1 : Int) (a0_2 : Int) (a0_3 : Int) (a0_4 : Int) (a0_5 : Int) (a0_6 : Int) (a1_0 : Int) (a1_1 : Int) (a2 : Int) (r : Bool) (w : World) (h : slotmeshlaw10_GuardSlots.f k a0_0 a0_1 a0_2 a0_3 a0_4 a0_5 a0_6 a1_0 a1_1 a2 = some r) :
    Calls Try.prog 10 #[.agg #[.bool a0_0, .int .i64 a0_1, .int .i64 a0_2, .int .i64 a0_3, .int .i64 a0_4, .int .i64 a0_5, .int .i64 a0_6], .agg #[.int .i64 a1_0, .int .i64 a1_1], .int .i64 a2] w fun e w' => e = .returned (.bool r) ∧ Below w.heap.size w w' := by
  have hu25 := Try.underlying25
  have hu27 := Try.underlying27
  have HB := Aside0.mk (Below.refl w.heap.size w)
  have H : ((slotmeshlaw10_head.f k).bind fun t371 => (if a2 < 0 then (slotmeshlaw10_GuardSlots.j0 k a2 t371 true a0_0 a0_1 a0_2 a0_3 a0_4 a0_5 a0_6 a1_0 a1_1) else (slotmeshlaw10_GuardSlots.j0 k a2 t371 (decide (a2 ≥ 999999999)) a0_0 a0_1 a0_2 a0_3 a0_4 a0_5 a0_6 a1_0 a1_1))) = some r := h
  clear h
  replace H := Option.bind_eq_some_iff.mp H
  obtain ⟨t371, A40, H⟩ := H
  replace H : (if a2 < 0 then (slotmeshlaw10_GuardSlots.j0 k a2 t371 true a0_0 a0_1 a0_2 a0_3 a0_4 a0_5 a0_6 a1_0 a1_1) else (slotmeshlaw10_GuardSlots.j0 k a2 t371 (decide (a2 ≥ 999999999)) a0_0 a0_1 a0_2 a0_3 a0_4 a0_5 a0_6 a1_0 a1_1)) = some r := H
  have A4 := Aside0.mk A40
  clear A40
  have HC5 := Aside0.mk H
  clear H
  go_enter Try.func10, Try.ntmps10
  go_upto_region 2 with (first | ((with_reducible refine gate_dst (N := 3) rfl ?_); refine box_event ?hg (N := 3) ?hd (cs := #[.bool a0_0, .int .i64 a0_1, .int .i64 a0_2, .int .i64 a0_3, .int .i64 a0_4, .int .i64 a0_5, .int .i64 a0_6]) (t := 25) ?hr ?_; (case hd => rfl); (case hg => rfl); (case hr => first | (go_simp; done) | (go_simp; rfl)); intro gb369 hg w6 hbox hb; have n0_ := Aside0.mk (below_step (by repeat (first | (with_reducible first | exact HB.out | apply below_alloc | apply pw_below_drewN | apply below_drew1) | exact HB.out)) hb); have n1_ := Aside0.mk (hbox); have n2_ := Aside0.mk ((by rw [hg]; exact (below_size (by repeat (first | (with_reducible first | exact HB.out | apply below_alloc | apply pw_below_drewN | apply below_drew1) | exact HB.out))) : w.heap.size ≤ gb369)); have n3_ := Aside0.mk ((by rw [hg]; exact (below_size (by repeat (first | (with_reducible first | exact HB.out | apply below_alloc | apply pw_below_drewN | apply below_drew1) | exact HB.out))) : w.heap.size ≤ gb369)); clear HB; have HB := n0_; have BK369 := n1_; have GW369 := n2_; have GE369 := n3_; clear n0_ n1_ n2_ n3_; clear hb hbox hg) | ((with_reducible refine gate_dst (N := 4) rfl ?_); refine box_event ?hg (N := 4) ?hd (cs := #[.int .i64 a1_0, .int .i64 a1_1]) (t := 27) ?hr ?_; (case hd => rfl); (case hg => rfl); (case hr => first | (go_simp; done) | (go_simp; rfl)); intro gb370 hg w7 hbox hb; have n0_ := Aside0.mk (blk_below (g := gb369) (o := .cells #[.bool a0_0, .int .i64 a0_1, .int .i64 a0_2, .int .i64 a0_3, .int .i64 a0_4, .int .i64 a0_5, .int .i64 a0_6] 25 (0, 0)) (by (with_reducible repeat (first | refine blk_drewN ?_ _ | refine blk_drew ?_ | refine blk_alloc ?_ _)); exact BK369.out) hb); have n1_ := Aside0.mk (below_step (by repeat (first | (with_reducible first | exact HB.out | apply below_alloc | apply pw_below_drewN | apply below_drew1 | refine below_set ?_ GE369.out) | exact HB.out)) hb); have n2_ := Aside0.mk (hbox); have n3_ := Aside0.mk ((by rw [hg]; exact (below_size (by repeat (first | (with_reducible first | exact HB.out | apply below_alloc | apply pw_below_drewN | apply below_drew1 | refine below_set ?_ GE369.out) | exact HB.out))) : w.heap.size ≤ gb370)); have n4_ := Aside0.mk ((by rw [hg]; exact (below_size (by repeat (first | (with_reducible first | exact HB.out | apply below_alloc | apply pw_below_drewN | apply below_drew1 | refine below_set ?_ GE369.out) | exact HB.out))) : w.heap.size ≤ gb370)); have n5_ := Aside0.mk ((by rw [hg]; exact Nat.ne_of_lt (blk_lt (g := gb369) (o := .cells #[.bool a0_0, .int .i64 a0_1, .int .i64 a0_2, .int .i64 a0_3, .int .i64 a0_4, .int .i64 a0_5, .int .i64 a0_6] 25 (0, 0)) (by (with_reducible repeat (first | refine blk_drewN ?_ _ | refine blk_drew ?_ | refine blk_alloc ?_ _)); exact BK369.out)) : gb369 ≠ gb370)); have n6_ := Aside0.mk ((by rw [hg]; exact Nat.ne_of_gt (blk_lt (g := gb369) (o := .cells #[.bool a0_0, .int .i64 a0_1, .int .i64 a0_2, .int .i64 a0_3, .int .i64 a0_4, .int .i64 a0_5, .int .i64 a0_6] 25 (0, 0)) (by (with_reducible repeat (first | refine blk_drewN ?_ _ | refine blk_drew ?_ | refine blk_alloc ?_ _)); exact BK369.out)) : gb370 ≠ gb369)); clear BK369; clear HB; have BK369 := n0_; have HB := n1_; have BK370 := n2_; have GW370 := n3_; have GE370 := n4_; have NB369_370 := n5_; have NB370_369 := n6_; clear n0_ n1_ n2_ n3_ n4_ n5_ n6_; clear hb hbox hg) | ((with_reducible refine gate_callee (f := 23) rfl ?_); refine goesL_ (some 13) rfl rfl Try.func23 (by kernel_rfl) rfl #[] rfl (by (try simp only [List.map_toArray, List.map_cons, List.map_nil]); first | done | rfl | (simp only [List.length_drop, List.length_take]; rfl)) ?_; (with_reducible refine (slotmeshlaw10_head.calls k  t371 _ A4.out).mono ?_); rintro e w8 ⟨rfl, hb⟩; refine ⟨_, rfl, ?_⟩; have n0_ := Aside0.mk (blk_below (g := gb369) (o := .cells #[.bool a0_0, .int .i64 a0_1, .int .i64 a0_2, .int .i64 a0_3, .int .i64 a0_4, .int .i64 a0_5, .int .i64 a0_6] 25 (0, 0)) (by (with_reducible repeat (first | refine blk_drewN ?_ _ | refine blk_drew ?_ | refine blk_alloc ?_ _)); exact BK369.out) hb); have n1_ := Aside0.mk (blk_below (g := gb370) (o := .cells #[.int .i64 a1_0, .int .i64 a1_1] 27 (0, 0)) (by (with_reducible repeat (first | refine blk_drewN ?_ _ | refine blk_drew ?_ | refine blk_alloc ?_ _)); exact BK370.out) hb); have n2_ := Aside0.mk (below_step (by repeat (first | (with_reducible first | exact HB.out | apply below_alloc | apply pw_below_drewN | apply below_drew1 | refine below_set ?_ GE369.out | refine below_set ?_ GE370.out) | exact HB.out)) hb); clear BK369; clear BK370; clear HB; have BK369 := n0_; have BK370 := n1_; have HB := n2_; clear n0_ n1_ n2_; (try clear hb); (try clear hb2); (try clear hk); (try clear hi)))
  (try simp only [Act.put, List.setIfInBounds_toArray, List.set_cons_zero, List.set_cons_succ])
  go_cut [19] (fun v19 wc => ∃ (kq : Nat) (x19_4 : Bool), v19 = .bool x19_4 ∧ Aside0 (slotmeshlaw10_GuardSlots.j0 kq a2 t371 x19_4 a0_0 a0_1 a0_2 a0_3 a0_4 a0_5 a0_6 a1_0 a1_1 = some r) ∧ Aside0 (kq ≤ k) ∧ Aside0 (wc.heap[gb369]? = some (.cells #[.bool a0_0, .int .i64 a0_1, .int .i64 a0_2, .int .i64 a0_3, .int .i64 a0_4, .int .i64 a0_5, .int .i64 a0_6] 25 (0, 0))) ∧ Aside0 (wc.heap[gb370]? = some (.cells #[.int .i64 a1_0, .int .i64 a1_1] 27 (0, 0))) ∧ Aside0 (Below w.heap.size w wc))
  case first =>
    have H := HC5.out
    clear HC5
    by_cases c9 : a2 < 0
    · rw [if_pos c9] at H
      have c9b0 : decide (a2 < 0) = true := decide_eq_true c9
      clear c9
      (first | rw [c9b0] | (simp only [i64_w, i32_w]; rw [c9b0]) | skip)
      have H' := Aside0.mk H
      clear H
      go_wp2
      go_meet
      case rel => exact ⟨_, (true), (by first | rfl | (simp; done) | (simp [*]; done)), H', ⟨by first | omega | exact Nat.le_refl _⟩, ⟨by (with_reducible repeat (first | refine blk_drewN ?_ _ | refine blk_drew ?_ | refine blk_alloc ?_ _)); exact BK369.out⟩, ⟨by (with_reducible repeat (first | refine blk_drewN ?_ _ | refine blk_drew ?_ | refine blk_alloc ?_ _)); exact BK370.out⟩, ⟨by repeat (first | (with_reducible first | exact HB.out | apply below_alloc | apply pw_below_drewN | apply below_drew1 | refine below_set ?_ GE369.out | refine below_set ?_ GE370.out) | exact HB.out)⟩⟩
    · rw [if_neg c9] at H
      have c9b0 : decide (a2 < 0) = false := decide_eq_false c9
      clear c9
      (first | rw [c9b0] | (simp only [i64_w, i32_w]; rw [c9b0]) | skip)
      have H' := Aside0.mk H
      clear H
      go_wp2
      go_meet
      case rel => exact ⟨_, (decide (a2 ≥ 999999999)), (by first | rfl | (simp; done) | (simp [*]; done)), H', ⟨by first | omega | exact Nat.le_refl _⟩, ⟨by (with_reducible repeat (first | refine blk_drewN ?_ _ | refine blk_drew ?_ | refine blk_alloc ?_ _)); exact BK369.out⟩, ⟨by (with_reducible repeat (first | refine blk_drewN ?_ _ | refine blk_drew ?_ | refine blk_alloc ?_ _)); exact BK370.out⟩, ⟨by repeat (first | (with_reducible first | exact HB.out | apply below_alloc | apply pw_below_drewN | apply below_drew1 | refine below_set ?_ GE369.out | refine below_set ?_ GE370.out) | exact HB.out)⟩⟩
  case rest =>
    clear HC5
    try clear c1
    try clear c2
    try clear p2
    try clear c9
    try clear c9b0
    obtain ⟨kq, x19_4, rfl, HA, HJ4, BK369, BK370, HB⟩ := hcut
    cases kq with
    | zero => exact absurd HA.out (by simp [slotmeshlaw10_GuardSlots.j0])
    | succ kj4 =>
      have H := HA.out
      clear HA
      simp only [slotmeshlaw10_GuardSlots.j0] at H
      by_cases c10 : x19_4 = true
      · subst c10
        have H1 : (some t371) = some r := by rw [if_pos rfl] at H; exact H
        clear H
        have H := H1
        clear H1
        obtain rfl := Option.some.inj H
        go_wp2
        go_ret
        exact ⟨by first | rfl | (simp [errW_none, errW_some] <;> rfl) | (simp [*, errW_none, errW_some] <;> rfl), by repeat (first | (with_reducible first | exact HB.out | apply below_alloc | apply pw_below_drewN | apply below_drew1 | refine below_set ?_ GE369.out | refine below_set ?_ GE370.out) | exact HB.out)⟩
      · replace c10 := Bool.eq_false_iff.mpr c10
        subst c10
        have H1 : ((guard_Send.f kj4 a0_0 a0_1 a0_2 a0_3 a0_4 a0_5 a0_6 a1_0 a1_1 a2).bind fun bt372 => ((guard_Send.f kj4 a0_0 a0_1 a0_2 a0_3 a0_4 a0_5 a0_6 a1_0 a1_1 (wrap64 (a2 + 1))).bind fun bt374 => (if bt372.2 = 0 then (if bt374.2 = 0 then (if bt372.1 = (wrap64 ((wrap64 (-a2)) * 10000)) then (some t371) else (if t371 = true then (if (wrap64 ((wrap64 (bt374.1 + 10000)) - bt372.1)) ≥ 9998 then (some (decide ((wrap64 ((wrap64 (bt374.1 + 10000)) - bt372.1)) ≤ 10002))) else (none)) else (none))) else (some t371)) else (some t371)))) = some r := by rw [if_neg (show ¬ (false = true) by decide)] at H; exact H
        clear H
        have H := H1
        clear H1
        replace H := Option.bind_eq_some_iff.mp H
        obtain ⟨⟨t372, t373⟩, A110, H⟩ := H
        replace H : ((guard_Send.f kj4 a0_0 a0_1 a0_2 a0_3 a0_4 a0_5 a0_6 a1_0 a1_1 (wrap64 (a2 + 1))).bind fun bt374 => (if t373 = 0 then (if bt374.2 = 0 then (if t372 = (wrap64 ((wrap64 (-a2)) * 10000)) then (some t371) else (if t371 = true then (if (wrap64 ((wrap64 (bt374.1 + 10000)) - t372)) ≥ 9998 then (some (decide ((wrap64 ((wrap64 (bt374.1 + 10000)) - t372)) ≤ 10002))) else (none)) else (none))) else (some t371)) else (some t371))) = some r := H
        have A11 := Aside0.mk A110
        clear A110
        replace H := Option.bind_eq_some_iff.mp H
        obtain ⟨⟨t374, t375⟩, A120, H⟩ := H
        replace H : (if t373 = 0 then (if t375 = 0 then (if t372 = (wrap64 ((wrap64 (-a2)) * 10000)) then (some t371) else (if t371 = true then (if (wrap64 ((wrap64 (t374 + 10000)) - t372)) ≥ 9998 then (some (decide ((wrap64 ((wrap64 (t374 + 10000)) - t372)) ≤ 10002))) else (none)) else (none))) else (some t371)) else (some t371)) = some r := H
        have A12 := Aside0.mk A120
        clear A120
        by_cases c13 : t373 = 0
        · rw [if_pos c13] at H
          have c13b0 : (t373 == 0) = true := beq_iff_eq.mpr c13
          have c13b1 : (t373 != 0) = false := bne_eq_false_iff_eq.mpr c13
          clear c13
          by_cases c14 : t375 = 0
          · rw [if_pos c14] at H
            have c14b0 : (t375 == 0) = true := beq_iff_eq.mpr c14
            have c14b1 : (t375 != 0) = false := bne_eq_false_iff_eq.mpr c14
            clear c14
            by_cases c15 : t372 = (wrap64 ((wrap64 (-a2)) * 10000))
            · rw [if_pos c15] at H
              have c15b0 : (t372 == (wrap64 ((wrap64 (-a2)) * 10000))) = true := beq_iff_eq.mpr c15
              have c15b1 : (t372 != (wrap64 ((wrap64 (-a2)) * 10000))) = false := bne_eq_false_iff_eq.mpr c15
              clear c15
              obtain rfl := Option.some.inj H
              have hnb16 := NB369_370.out
              have hnc16 := NB370_369.out
              have hcz17_0 : wc.cell? ⟨gb369, 0, none⟩ = some (.bool a0_0) := (blk_cell BK369.out 0).trans rfl
              have hcz17_1 : wc.cell? ⟨gb369, 1, none⟩ = some (.int .i64 a0_1) := (blk_cell BK369.out 1).trans rfl
              have hcz17_2 : wc.cell? ⟨gb369, 2, none⟩ = some (.int .i64 a0_2) := (blk_cell BK369.out 2).trans rfl
              have hcz17_3 : wc.cell? ⟨gb369, 3, none⟩ = some (.int .i64 a0_3) := (blk_cell BK369.out 3).trans rfl
              have hcz17_4 : wc.cell? ⟨gb369, 4, none⟩ = some (.int .i64 a0_4) := (blk_cell BK369.out 4).trans rfl
              have hcz17_5 : wc.cell? ⟨gb369, 5, none⟩ = some (.int .i64 a0_5) := (blk_cell BK369.out 5).trans rfl
              have hcz17_6 : wc.cell? ⟨gb369, 6, none⟩ = some (.int .i64 a0_6) := (blk_cell BK369.out 6).trans rfl
              have hfz17_0 := blk_frozen BK369.out 0
              have hfz17_1 := blk_frozen BK369.out 1
              have hfz17_2 := blk_frozen BK369.out 2
              have hfz17_3 := blk_frozen BK369.out 3
              have hfz17_4 := blk_frozen BK369.out 4
              have hfz17_5 := blk_frozen BK369.out 5
              have hfz17_6 := blk_frozen BK369.out 6
              have hcz18_0 : wc.cell? ⟨gb370, 0, none⟩ = some (.int .i64 a1_0) := (blk_cell BK370.out 0).trans rfl
              have hcz18_1 : wc.cell? ⟨gb370, 1, none⟩ = some (.int .i64 a1_1) := (blk_cell BK370.out 1).trans rfl
              have hfz18_0 := blk_frozen BK370.out 0
              have hfz18_1 := blk_frozen BK370.out 1
              go_wp2_with (first | ((with_reducible refine gate_callee (f := 13) rfl ?_); refine goesL_ (some 25) rfl rfl Try.func13 (by kernel_rfl) rfl #[.agg #[.bool a0_0, .int .i64 a0_1, .int .i64 a0_2, .int .i64 a0_3, .int .i64 a0_4, .int .i64 a0_5, .int .i64 a0_6], .agg #[.int .i64 a1_0, .int .i64 a1_1], .int .i64 a2] rfl (by (try simp only [List.map_toArray, List.map_cons, List.map_nil]); first | done | rfl | (simp only [List.length_drop, List.length_take]; rfl)) ?_; (with_reducible refine (guard_Send.calls kj4 a0_0 a0_1 a0_2 a0_3 a0_4 a0_5 a0_6 a1_0 a1_1 a2 t372 t373 _ A11.out).mono ?_); rintro e w19 ⟨rfl, hb⟩; refine ⟨_, rfl, ?_⟩; have n0_ := Aside0.mk (blk_below (g := gb369) (o := .cells #[.bool a0_0, .int .i64 a0_1, .int .i64 a0_2, .int .i64 a0_3, .int .i64 a0_4, .int .i64 a0_5, .int .i64 a0_6] 25 (0, 0)) (by (with_reducible repeat (first | refine blk_drewN ?_ _ | refine blk_drew ?_ | refine blk_alloc ?_ _)); exact BK369.out) hb); have n1_ := Aside0.mk (blk_below (g := gb370) (o := .cells #[.int .i64 a1_0, .int .i64 a1_1] 27 (0, 0)) (by (with_reducible repeat (first | refine blk_drewN ?_ _ | refine blk_drew ?_ | refine blk_alloc ?_ _)); exact BK370.out) hb); have n2_ := Aside0.mk (below_step (by repeat (first | (with_reducible first | exact HB.out | apply below_alloc | apply pw_below_drewN | apply below_drew1 | refine below_set ?_ GE369.out | refine below_set ?_ GE370.out) | exact HB.out)) hb); clear BK369; clear BK370; clear HB; have BK369 := n0_; have BK370 := n1_; have HB := n2_; clear n0_ n1_ n2_; (try clear hb); (try clear hb2); (try clear hk); (try clear hi); have hcz20_0 : w19.cell? ⟨gb369, 0, none⟩ = some (.bool a0_0) := (blk_cell BK369.out 0).trans rfl; have hcz20_1 : w19.cell? ⟨gb369, 1, none⟩ = some (.int .i64 a0_1) := (blk_cell BK369.out 1).trans rfl; have hcz20_2 : w19.cell? ⟨gb369, 2, none⟩ = some (.int .i64 a0_2) := (blk_cell BK369.out 2).trans rfl; have hcz20_3 : w19.cell? ⟨gb369, 3, none⟩ = some (.int .i64 a0_3) := (blk_cell BK369.out 3).trans rfl; have hcz20_4 : w19.cell? ⟨gb369, 4, none⟩ = some (.int .i64 a0_4) := (blk_cell BK369.out 4).trans rfl; have hcz20_5 : w19.cell? ⟨gb369, 5, none⟩ = some (.int .i64 a0_5) := (blk_cell BK369.out 5).trans rfl; have hcz20_6 : w19.cell? ⟨gb369, 6, none⟩ = some (.int .i64 a0_6) := (blk_cell BK369.out 6).trans rfl; have hfz20_0 := blk_frozen BK369.out 0; have hfz20_1 := blk_frozen BK369.out 1; have hfz20_2 := blk_frozen BK369.out 2; have hfz20_3 := blk_frozen BK369.out 3; have hfz20_4 := blk_frozen BK369.out 4; have hfz20_5 := blk_frozen BK369.out 5; have hfz20_6 := blk_frozen BK369.out 6; have hcz21_0 : w19.cell? ⟨gb370, 0, none⟩ = some (.int .i64 a1_0) := (blk_cell BK370.out 0).trans rfl; have hcz21_1 : w19.cell? ⟨gb370, 1, none⟩ = some (.int .i64 a1_1) := (blk_cell BK370.out 1).trans rfl; have hfz21_0 := blk_frozen BK370.out 0; have hfz21_1 := blk_frozen BK370.out 1) | ((with_reducible refine gate_callee (f := 13) rfl ?_); refine goesL_ (some 33) rfl rfl Try.func13 (by kernel_rfl) rfl #[.agg #[.bool a0_0, .int .i64 a0_1, .int .i64 a0_2, .int .i64 a0_3, .int .i64 a0_4, .int .i64 a0_5, .int .i64 a0_6], .agg #[.int .i64 a1_0, .int .i64 a1_1], .int .i64 (wrap64 (a2 + 1))] rfl (by (try simp only [List.map_toArray, List.map_cons, List.map_nil]); first | done | rfl | (simp only [List.length_drop, List.length_take]; rfl)) ?_; (with_reducible refine (guard_Send.calls kj4 a0_0 a0_1 a0_2 a0_3 a0_4 a0_5 a0_6 a1_0 a1_1 (wrap64 (a2 + 1)) t374 t375 _ A12.out).mono ?_); rintro e w22 ⟨rfl, hb⟩; refine ⟨_, rfl, ?_⟩; have n0_ := Aside0.mk (blk_below (g := gb369) (o := .cells #[.bool a0_0, .int .i64 a0_1, .int .i64 a0_2, .int .i64 a0_3, .int .i64 a0_4, .int .i64 a0_5, .int .i64 a0_6] 25 (0, 0)) (by (with_reducible repeat (first | refine blk_drewN ?_ _ | refine blk_drew ?_ | refine blk_alloc ?_ _)); exact BK369.out) hb); have n1_ := Aside0.mk (blk_below (g := gb370) (o := .cells #[.int .i64 a1_0, .int .i64 a1_1] 27 (0, 0)) (by (with_reducible repeat (first | refine blk_drewN ?_ _ | refine blk_drew ?_ | refine blk_alloc ?_ _)); exact BK370.out) hb); have n2_ := Aside0.mk (below_step (by repeat (first | (with_reducible first | exact HB.out | apply below_alloc | apply pw_below_drewN | apply below_drew1 | refine below_set ?_ GE369.out | refine below_set ?_ GE370.out) | exact HB.out)) hb); clear BK369; clear BK370; clear HB; have BK369 := n0_; have BK370 := n1_; have HB := n2_; clear n0_ n1_ n2_; (try clear hb); (try clear hb2); (try clear hk); (try clear hi)))
              go_ret
              exact ⟨by first | rfl | (simp [errW_none, errW_some] <;> rfl) | (simp [*, errW_none, errW_some] <;> rfl), by repeat (first | (with_reducible first | exact HB.out | apply below_alloc | apply pw_below_drewN | apply below_drew1 | refine below_set ?_ GE369.out | refine below_set ?_ GE370.out) | exact HB.out)⟩
            · rw [if_neg c15] at H
              have c15b0 : (t372 == (wrap64 ((wrap64 (-a2)) * 10000))) = false := beq_eq_false_iff_ne.mpr c15
              have c15b1 : (t372 != (wrap64 ((wrap64 (-a2)) * 10000))) = true := bne_iff_ne.mpr c15
              by_cases c23 : t371 = true
              · subst c23
                have H1 : (if (wrap64 ((wrap64 (t374 + 10000)) - t372)) ≥ 9998 then (some (decide ((wrap64 ((wrap64 (t374 + 10000)) - t372)) ≤ 10002))) else (none)) = some r := by rw [if_pos rfl] at H; exact H
                clear H
                have H := H1
                clear H1
                by_cases c24 : (wrap64 ((wrap64 (t374 + 10000)) - t372)) ≥ 9998
                · rw [if_pos c24] at H
                  have c24b0 : decide (9998 ≤ (wrap64 ((wrap64 (t374 + 10000)) - t372))) = true := decide_eq_true c24
                  clear c24
                  obtain rfl := Option.some.inj H
                  have hnb25 := NB369_370.out
                  have hnc25 := NB370_369.out
                  have hcz26_0 : wc.cell? ⟨gb369, 0, none⟩ = some (.bool a0_0) := (blk_cell BK369.out 0).trans rfl
                  have hcz26_1 : wc.cell? ⟨gb369, 1, none⟩ = some (.int .i64 a0_1) := (blk_cell BK369.out 1).trans rfl
                  have hcz26_2 : wc.cell? ⟨gb369, 2, none⟩ = some (.int .i64 a0_2) := (blk_cell BK369.out 2).trans rfl
                  have hcz26_3 : wc.cell? ⟨gb369, 3, none⟩ = some (.int .i64 a0_3) := (blk_cell BK369.out 3).trans rfl
                  have hcz26_4 : wc.cell? ⟨gb369, 4, none⟩ = some (.int .i64 a0_4) := (blk_cell BK369.out 4).trans rfl
                  have hcz26_5 : wc.cell? ⟨gb369, 5, none⟩ = some (.int .i64 a0_5) := (blk_cell BK369.out 5).trans rfl
                  have hcz26_6 : wc.cell? ⟨gb369, 6, none⟩ = some (.int .i64 a0_6) := (blk_cell BK369.out 6).trans rfl
                  have hfz26_0 := blk_frozen BK369.out 0
                  have hfz26_1 := blk_frozen BK369.out 1
                  have hfz26_2 := blk_frozen BK369.out 2
                  have hfz26_3 := blk_frozen BK369.out 3
                  have hfz26_4 := blk_frozen BK369.out 4
                  have hfz26_5 := blk_frozen BK369.out 5
                  have hfz26_6 := blk_frozen BK369.out 6
                  have hcz27_0 : wc.cell? ⟨gb370, 0, none⟩ = some (.int .i64 a1_0) := (blk_cell BK370.out 0).trans rfl
                  have hcz27_1 : wc.cell? ⟨gb370, 1, none⟩ = some (.int .i64 a1_1) := (blk_cell BK370.out 1).trans rfl
                  have hfz27_0 := blk_frozen BK370.out 0
                  have hfz27_1 := blk_frozen BK370.out 1
                  go_wp2_with (first | ((with_reducible refine gate_callee (f := 13) rfl ?_); refine goesL_ (some 25) rfl rfl Try.func13 (by kernel_rfl) rfl #[.agg #[.bool a0_0, .int .i64 a0_1, .int .i64 a0_2, .int .i64 a0_3, .int .i64 a0_4, .int .i64 a0_5, .int .i64 a0_6], .agg #[.int .i64 a1_0, .int .i64 a1_1], .int .i64 a2] rfl (by (try simp only [List.map_toArray, List.map_cons, List.map_nil]); first | done | rfl | (simp only [List.length_drop, List.length_take]; rfl)) ?_; (with_reducible refine (guard_Send.calls kj4 a0_0 a0_1 a0_2 a0_3 a0_4 a0_5 a0_6 a1_0 a1_1 a2 t372 t373 _ A11.out).mono ?_); rintro e w28 ⟨rfl, hb⟩; refine ⟨_, rfl, ?_⟩; have n0_ := Aside0.mk (blk_below (g := gb369) (o := .cells #[.bool a0_0, .int .i64 a0_1, .int .i64 a0_2, .int .i64 a0_3, .int .i64 a0_4, .int .i64 a0_5, .int .i64 a0_6] 25 (0, 0)) (by (with_reducible repeat (first | refine blk_drewN ?_ _ | refine blk_drew ?_ | refine blk_alloc ?_ _)); exact BK369.out) hb); have n1_ := Aside0.mk (blk_below (g := gb370) (o := .cells #[.int .i64 a1_0, .int .i64 a1_1] 27 (0, 0)) (by (with_reducible repeat (first | refine blk_drewN ?_ _ | refine blk_drew ?_ | refine blk_alloc ?_ _)); exact BK370.out) hb); have n2_ := Aside0.mk (below_step (by repeat (first | (with_reducible first | exact HB.out | apply below_alloc | apply pw_below_drewN | apply below_drew1 | refine below_set ?_ GE369.out | refine below_set ?_ GE370.out) | exact HB.out)) hb); clear BK369; clear BK370; clear HB; have BK369 := n0_; have BK370 := n1_; have HB := n2_; clear n0_ n1_ n2_; (try clear hb); (try clear hb2); (try clear hk); (try clear hi); have hcz29_0 : w28.cell? ⟨gb369, 0, none⟩ = some (.bool a0_0) := (blk_cell BK369.out 0).trans rfl; have hcz29_1 : w28.cell? ⟨gb369, 1, none⟩ = some (.int .i64 a0_1) := (blk_cell BK369.out 1).trans rfl; have hcz29_2 : w28.cell? ⟨gb369, 2, none⟩ = some (.int .i64 a0_2) := (blk_cell BK369.out 2).trans rfl; have hcz29_3 : w28.cell? ⟨gb369, 3, none⟩ = some (.int .i64 a0_3) := (blk_cell BK369.out 3).trans rfl; have hcz29_4 : w28.cell? ⟨gb369, 4, none⟩ = some (.int .i64 a0_4) := (blk_cell BK369.out 4).trans rfl; have hcz29_5 : w28.cell? ⟨gb369, 5, none⟩ = some (.int .i64 a0_5) := (blk_cell BK369.out 5).trans rfl; have hcz29_6 : w28.cell? ⟨gb369, 6, none⟩ = some (.int .i64 a0_6) := (blk_cell BK369.out 6).trans rfl; have hfz29_0 := blk_frozen BK369.out 0; have hfz29_1 := blk_frozen BK369.out 1; have hfz29_2 := blk_frozen BK369.out 2; have hfz29_3 := blk_frozen BK369.out 3; have hfz29_4 := blk_frozen BK369.out 4; have hfz29_5 := blk_frozen BK369.out 5; have hfz29_6 := blk_frozen BK369.out 6; have hcz30_0 : w28.cell? ⟨gb370, 0, none⟩ = some (.int .i64 a1_0) := (blk_cell BK370.out 0).trans rfl; have hcz30_1 : w28.cell? ⟨gb370, 1, none⟩ = some (.int .i64 a1_1) := (blk_cell BK370.out 1).trans rfl; have hfz30_0 := blk_frozen BK370.out 0; have hfz30_1 := blk_frozen BK370.out 1) | ((with_reducible refine gate_callee (f := 13) rfl ?_); refine goesL_ (some 33) rfl rfl Try.func13 (by kernel_rfl) rfl #[.agg #[.bool a0_0, .int .i64 a0_1, .int .i64 a0_2, .int .i64 a0_3, .int .i64 a0_4, .int .i64 a0_5, .int .i64 a0_6], .agg #[.int .i64 a1_0, .int .i64 a1_1], .int .i64 (wrap64 (a2 + 1))] rfl (by (try simp only [List.map_toArray, List.map_cons, List.map_nil]); first | done | rfl | (simp only [List.length_drop, List.length_take]; rfl)) ?_; (with_reducible refine (guard_Send.calls kj4 a0_0 a0_1 a0_2 a0_3 a0_4 a0_5 a0_6 a1_0 a1_1 (wrap64 (a2 + 1)) t374 t375 _ A12.out).mono ?_); rintro e w31 ⟨rfl, hb⟩; refine ⟨_, rfl, ?_⟩; have n0_ := Aside0.mk (blk_below (g := gb369) (o := .cells #[.bool a0_0, .int .i64 a0_1, .int .i64 a0_2, .int .i64 a0_3, .int .i64 a0_4, .int .i64 a0_5, .int .i64 a0_6] 25 (0, 0)) (by (with_reducible repeat (first | refine blk_drewN ?_ _ | refine blk_drew ?_ | refine blk_alloc ?_ _)); exact BK369.out) hb); have n1_ := Aside0.mk (blk_below (g := gb370) (o := .cells #[.int .i64 a1_0, .int .i64 a1_1] 27 (0, 0)) (by (with_reducible repeat (first | refine blk_drewN ?_ _ | refine blk_drew ?_ | refine blk_alloc ?_ _)); exact BK370.out) hb); have n2_ := Aside0.mk (below_step (by repeat (first | (with_reducible first | exact HB.out | apply below_alloc | apply pw_below_drewN | apply below_drew1 | refine below_set ?_ GE369.out | refine below_set ?_ GE370.out) | exact HB.out)) hb); clear BK369; clear BK370; clear HB; have BK369 := n0_; have BK370 := n1_; have HB := n2_; clear n0_ n1_ n2_; (try clear hb); (try clear hb2); (try clear hk); (try clear hi)))
                  go_ret
                  exact ⟨by first | rfl | (simp [errW_none, errW_some] <;> rfl) | (simp [*, errW_none, errW_some] <;> rfl), by repeat (first | (with_reducible first | exact HB.out | apply below_alloc | apply pw_below_drewN | apply below_drew1 | refine below_set ?_ GE369.out | refine below_set ?_ GE370.out) | exact HB.out)⟩
                · rw [if_neg c24] at H
                  exact absurd H (by simp)
              · replace c23 := Bool.eq_false_iff.mpr c23
                subst c23
                have H1 : (none) = some r := by rw [if_neg (show ¬ (false = true) by decide)] at H; exact H
                clear H
                have H := H1
                clear H1
                exact absurd H (by simp)
          · rw [if_neg c14] at H
            have c14b0 : (t375 == 0) = false := beq_eq_false_iff_ne.mpr c14
            have c14b1 : (t375 != 0) = true := bne_iff_ne.mpr c14
            obtain rfl := Option.some.inj H
            have hnb32 := NB369_370.out
            have hnc32 := NB370_369.out
            have hcz33_0 : wc.cell? ⟨gb369, 0, none⟩ = some (.bool a0_0) := (blk_cell BK369.out 0).trans rfl
            have hcz33_1 : wc.cell? ⟨gb369, 1, none⟩ = some (.int .i64 a0_1) := (blk_cell BK369.out 1).trans rfl
            have hcz33_2 : wc.cell? ⟨gb369, 2, none⟩ = some (.int .i64 a0_2) := (blk_cell BK369.out 2).trans rfl
            have hcz33_3 : wc.cell? ⟨gb369, 3, none⟩ = some (.int .i64 a0_3) := (blk_cell BK369.out 3).trans rfl
            have hcz33_4 : wc.cell? ⟨gb369, 4, none⟩ = some (.int .i64 a0_4) := (blk_cell BK369.out 4).trans rfl
            have hcz33_5 : wc.cell? ⟨gb369, 5, none⟩ = some (.int .i64 a0_5) := (blk_cell BK369.out 5).trans rfl
            have hcz33_6 : wc.cell? ⟨gb369, 6, none⟩ = some (.int .i64 a0_6) := (blk_cell BK369.out 6).trans rfl
            have hfz33_0 := blk_frozen BK369.out 0
            have hfz33_1 := blk_frozen BK369.out 1
            have hfz33_2 := blk_frozen BK369.out 2
            have hfz33_3 := blk_frozen BK369.out 3
            have hfz33_4 := blk_frozen BK369.out 4
            have hfz33_5 := blk_frozen BK369.out 5
            have hfz33_6 := blk_frozen BK369.out 6
            have hcz34_0 : wc.cell? ⟨gb370, 0, none⟩ = some (.int .i64 a1_0) := (blk_cell BK370.out 0).trans rfl
            have hcz34_1 : wc.cell? ⟨gb370, 1, none⟩ = some (.int .i64 a1_1) := (blk_cell BK370.out 1).trans rfl
            have hfz34_0 := blk_frozen BK370.out 0
            have hfz34_1 := blk_frozen BK370.out 1
            go_wp2_with (first | ((with_reducible refine gate_callee (f := 13) rfl ?_); refine goesL_ (some 25) rfl rfl Try.func13 (by kernel_rfl) rfl #[.agg #[.bool a0_0, .int .i64 a0_1, .int .i64 a0_2, .int .i64 a0_3, .int .i64 a0_4, .int .i64 a0_5, .int .i64 a0_6], .agg #[.int .i64 a1_0, .int .i64 a1_1], .int .i64 a2] rfl (by (try simp only [List.map_toArray, List.map_cons, List.map_nil]); first | done | rfl | (simp only [List.length_drop, List.length_take]; rfl)) ?_; (with_reducible refine (guard_Send.calls kj4 a0_0 a0_1 a0_2 a0_3 a0_4 a0_5 a0_6 a1_0 a1_1 a2 t372 t373 _ A11.out).mono ?_); rintro e w35 ⟨rfl, hb⟩; refine ⟨_, rfl, ?_⟩; have n0_ := Aside0.mk (blk_below (g := gb369) (o := .cells #[.bool a0_0, .int .i64 a0_1, .int .i64 a0_2, .int .i64 a0_3, .int .i64 a0_4, .int .i64 a0_5, .int .i64 a0_6] 25 (0, 0)) (by (with_reducible repeat (first | refine blk_drewN ?_ _ | refine blk_drew ?_ | refine blk_alloc ?_ _)); exact BK369.out) hb); have n1_ := Aside0.mk (blk_below (g := gb370) (o := .cells #[.int .i64 a1_0, .int .i64 a1_1] 27 (0, 0)) (by (with_reducible repeat (first | refine blk_drewN ?_ _ | refine blk_drew ?_ | refine blk_alloc ?_ _)); exact BK370.out) hb); have n2_ := Aside0.mk (below_step (by repeat (first | (with_reducible first | exact HB.out | apply below_alloc | apply pw_below_drewN | apply below_drew1 | refine below_set ?_ GE369.out | refine below_set ?_ GE370.out) | exact HB.out)) hb); clear BK369; clear BK370; clear HB; have BK369 := n0_; have BK370 := n1_; have HB := n2_; clear n0_ n1_ n2_; (try clear hb); (try clear hb2); (try clear hk); (try clear hi); have hcz36_0 : w35.cell? ⟨gb369, 0, none⟩ = some (.bool a0_0) := (blk_cell BK369.out 0).trans rfl; have hcz36_1 : w35.cell? ⟨gb369, 1, none⟩ = some (.int .i64 a0_1) := (blk_cell BK369.out 1).trans rfl; have hcz36_2 : w35.cell? ⟨gb369, 2, none⟩ = some (.int .i64 a0_2) := (blk_cell BK369.out 2).trans rfl; have hcz36_3 : w35.cell? ⟨gb369, 3, none⟩ = some (.int .i64 a0_3) := (blk_cell BK369.out 3).trans rfl; have hcz36_4 : w35.cell? ⟨gb369, 4, none⟩ = some (.int .i64 a0_4) := (blk_cell BK369.out 4).trans rfl; have hcz36_5 : w35.cell? ⟨gb369, 5, none⟩ = some (.int .i64 a0_5) := (blk_cell BK369.out 5).trans rfl; have hcz36_6 : w35.cell? ⟨gb369, 6, none⟩ = some (.int .i64 a0_6) := (blk_cell BK369.out 6).trans rfl; have hfz36_0 := blk_frozen BK369.out 0; have hfz36_1 := blk_frozen BK369.out 1; have hfz36_2 := blk_frozen BK369.out 2; have hfz36_3 := blk_frozen BK369.out 3; have hfz36_4 := blk_frozen BK369.out 4; have hfz36_5 := blk_frozen BK369.out 5; have hfz36_6 := blk_frozen BK369.out 6; have hcz37_0 : w35.cell? ⟨gb370, 0, none⟩ = some (.int .i64 a1_0) := (blk_cell BK370.out 0).trans rfl; have hcz37_1 : w35.cell? ⟨gb370, 1, none⟩ = some (.int .i64 a1_1) := (blk_cell BK370.out 1).trans rfl; have hfz37_0 := blk_frozen BK370.out 0; have hfz37_1 := blk_frozen BK370.out 1) | ((with_reducible refine gate_callee (f := 13) rfl ?_); refine goesL_ (some 33) rfl rfl Try.func13 (by kernel_rfl) rfl #[.agg #[.bool a0_0, .int .i64 a0_1, .int .i64 a0_2, .int .i64 a0_3, .int .i64 a0_4, .int .i64 a0_5, .int .i64 a0_6], .agg #[.int .i64 a1_0, .int .i64 a1_1], .int .i64 (wrap64 (a2 + 1))] rfl (by (try simp only [List.map_toArray, List.map_cons, List.map_nil]); first | done | rfl | (simp only [List.length_drop, List.length_take]; rfl)) ?_; (with_reducible refine (guard_Send.calls kj4 a0_0 a0_1 a0_2 a0_3 a0_4 a0_5 a0_6 a1_0 a1_1 (wrap64 (a2 + 1)) t374 t375 _ A12.out).mono ?_); rintro e w38 ⟨rfl, hb⟩; refine ⟨_, rfl, ?_⟩; have n0_ := Aside0.mk (blk_below (g := gb369) (o := .cells #[.bool a0_0, .int .i64 a0_1, .int .i64 a0_2, .int .i64 a0_3, .int .i64 a0_4, .int .i64 a0_5, .int .i64 a0_6] 25 (0, 0)) (by (with_reducible repeat (first | refine blk_drewN ?_ _ | refine blk_drew ?_ | refine blk_alloc ?_ _)); exact BK369.out) hb); have n1_ := Aside0.mk (blk_below (g := gb370) (o := .cells #[.int .i64 a1_0, .int .i64 a1_1] 27 (0, 0)) (by (with_reducible repeat (first | refine blk_drewN ?_ _ | refine blk_drew ?_ | refine blk_alloc ?_ _)); exact BK370.out) hb); have n2_ := Aside0.mk (below_step (by repeat (first | (with_reducible first | exact HB.out | apply below_alloc | apply pw_below_drewN | apply below_drew1 | refine below_set ?_ GE369.out | refine below_set ?_ GE370.out) | exact HB.out)) hb); clear BK369; clear BK370; clear HB; have BK369 := n0_; have BK370 := n1_; have HB := n2_; clear n0_ n1_ n2_; (try clear hb); (try clear hb2); (try clear hk); (try clear hi)))
            go_ret
            exact ⟨by first | rfl | (simp [errW_none, errW_some] <;> rfl) | (simp [*, errW_none, errW_some] <;> rfl), by repeat (first | (with_reducible first | exact HB.out | apply below_alloc | apply pw_below_drewN | apply below_drew1 | refine below_set ?_ GE369.out | refine below_set ?_ GE370.out) | exact HB.out)⟩
        · rw [if_neg c13] at H
          have c13b0 : (t373 == 0) = false := beq_eq_false_iff_ne.mpr c13
          have c13b1 : (t373 != 0) = true := bne_iff_ne.mpr c13
          obtain rfl := Option.some.inj H
          have hnb39 := NB369_370.out
          have hnc39 := NB370_369.out
          have hcz40_0 : wc.cell? ⟨gb369, 0, none⟩ = some (.bool a0_0) := (blk_cell BK369.out 0).trans rfl
          have hcz40_1 : wc.cell? ⟨gb369, 1, none⟩ = some (.int .i64 a0_1) := (blk_cell BK369.out 1).trans rfl
          have hcz40_2 : wc.cell? ⟨gb369, 2, none⟩ = some (.int .i64 a0_2) := (blk_cell BK369.out 2).trans rfl
          have hcz40_3 : wc.cell? ⟨gb369, 3, none⟩ = some (.int .i64 a0_3) := (blk_cell BK369.out 3).trans rfl
          have hcz40_4 : wc.cell? ⟨gb369, 4, none⟩ = some (.int .i64 a0_4) := (blk_cell BK369.out 4).trans rfl
          have hcz40_5 : wc.cell? ⟨gb369, 5, none⟩ = some (.int .i64 a0_5) := (blk_cell BK369.out 5).trans rfl
          have hcz40_6 : wc.cell? ⟨gb369, 6, none⟩ = some (.int .i64 a0_6) := (blk_cell BK369.out 6).trans rfl
          have hfz40_0 := blk_frozen BK369.out 0
          have hfz40_1 := blk_frozen BK369.out 1
          have hfz40_2 := blk_frozen BK369.out 2
          have hfz40_3 := blk_frozen BK369.out 3
          have hfz40_4 := blk_frozen BK369.out 4
          have hfz40_5 := blk_frozen BK369.out 5
          have hfz40_6 := blk_frozen BK369.out 6
          have hcz41_0 : wc.cell? ⟨gb370, 0, none⟩ = some (.int .i64 a1_0) := (blk_cell BK370.out 0).trans rfl
          have hcz41_1 : wc.cell? ⟨gb370, 1, none⟩ = some (.int .i64 a1_1) := (blk_cell BK370.out 1).trans rfl
          have hfz41_0 := blk_frozen BK370.out 0
          have hfz41_1 := blk_frozen BK370.out 1
          go_wp2_with (first | ((with_reducible refine gate_callee (f := 13) rfl ?_); refine goesL_ (some 25) rfl rfl Try.func13 (by kernel_rfl) rfl #[.agg #[.bool a0_0, .int .i64 a0_1, .int .i64 a0_2, .int .i64 a0_3, .int .i64 a0_4, .int .i64 a0_5, .int .i64 a0_6], .agg #[.int .i64 a1_0, .int .i64 a1_1], .int .i64 a2] rfl (by (try simp only [List.map_toArray, List.map_cons, List.map_nil]); first | done | rfl | (simp only [List.length_drop, List.length_take]; rfl)) ?_; (with_reducible refine (guard_Send.calls kj4 a0_0 a0_1 a0_2 a0_3 a0_4 a0_5 a0_6 a1_0 a1_1 a2 t372 t373 _ A11.out).mono ?_); rintro e w42 ⟨rfl, hb⟩; refine ⟨_, rfl, ?_⟩; have n0_ := Aside0.mk (blk_below (g := gb369) (o := .cells #[.bool a0_0, .int .i64 a0_1, .int .i64 a0_2, .int .i64 a0_3, .int .i64 a0_4, .int .i64 a0_5, .int .i64 a0_6] 25 (0, 0)) (by (with_reducible repeat (first | refine blk_drewN ?_ _ | refine blk_drew ?_ | refine blk_alloc ?_ _)); exact BK369.out) hb); have n1_ := Aside0.mk (blk_below (g := gb370) (o := .cells #[.int .i64 a1_0, .int .i64 a1_1] 27 (0, 0)) (by (with_reducible repeat (first | refine blk_drewN ?_ _ | refine blk_drew ?_ | refine blk_alloc ?_ _)); exact BK370.out) hb); have n2_ := Aside0.mk (below_step (by repeat (first | (with_reducible first | exact HB.out | apply below_alloc | apply pw_below_drewN | apply below_drew1 | refine below_set ?_ GE369.out | refine below_set ?_ GE370.out) | exact HB.out)) hb); clear BK369; clear BK370; clear HB; have BK369 := n0_; have BK370 := n1_; have HB := n2_; clear n0_ n1_ n2_; (try clear hb); (try clear hb2); (try clear hk); (try clear hi); have hcz43_0 : w42.cell? ⟨gb369, 0, none⟩ = some (.bool a0_0) := (blk_cell BK369.out 0).trans rfl; have hcz43_1 : w42.cell? ⟨gb369, 1, none⟩ = some (.int .i64 a0_1) := (blk_cell BK369.out 1).trans rfl; have hcz43_2 : w42.cell? ⟨gb369, 2, none⟩ = some (.int .i64 a0_2) := (blk_cell BK369.out 2).trans rfl; have hcz43_3 : w42.cell? ⟨gb369, 3, none⟩ = some (.int .i64 a0_3) := (blk_cell BK369.out 3).trans rfl; have hcz43_4 : w42.cell? ⟨gb369, 4, none⟩ = some (.int .i64 a0_4) := (blk_cell BK369.out 4).trans rfl; have hcz43_5 : w42.cell? ⟨gb369, 5, none⟩ = some (.int .i64 a0_5) := (blk_cell BK369.out 5).trans rfl; have hcz43_6 : w42.cell? ⟨gb369, 6, none⟩ = some (.int .i64 a0_6) := (blk_cell BK369.out 6).trans rfl; have hfz43_0 := blk_frozen BK369.out 0; have hfz43_1 := blk_frozen BK369.out 1; have hfz43_2 := blk_frozen BK369.out 2; have hfz43_3 := blk_frozen BK369.out 3; have hfz43_4 := blk_frozen BK369.out 4; have hfz43_5 := blk_frozen BK369.out 5; have hfz43_6 := blk_frozen BK369.out 6; have hcz44_0 : w42.cell? ⟨gb370, 0, none⟩ = some (.int .i64 a1_0) := (blk_cell BK370.out 0).trans rfl; have hcz44_1 : w42.cell? ⟨gb370, 1, none⟩ = some (.int .i64 a1_1) := (blk_cell BK370.out 1).trans rfl; have hfz44_0 := blk_frozen BK370.out 0; have hfz44_1 := blk_frozen BK370.out 1) | ((with_reducible refine gate_callee (f := 13) rfl ?_); refine goesL_ (some 33) rfl rfl Try.func13 (by kernel_rfl) rfl #[.agg #[.bool a0_0, .int .i64 a0_1, .int .i64 a0_2, .int .i64 a0_3, .int .i64 a0_4, .int .i64 a0_5, .int .i64 a0_6], .agg #[.int .i64 a1_0, .int .i64 a1_1], .int .i64 (wrap64 (a2 + 1))] rfl (by (try simp only [List.map_toArray, List.map_cons, List.map_nil]); first | done | rfl | (simp only [List.length_drop, List.length_take]; rfl)) ?_; (with_reducible refine (guard_Send.calls kj4 a0_0 a0_1 a0_2 a0_3 a0_4 a0_5 a0_6 a1_0 a1_1 (wrap64 (a2 + 1)) t374 t375 _ A12.out).mono ?_); rintro e w45 ⟨rfl, hb⟩; refine ⟨_, rfl, ?_⟩; have n0_ := Aside0.mk (blk_below (g := gb369) (o := .cells #[.bool a0_0, .int .i64 a0_1, .int .i64 a0_2, .int .i64 a0_3, .int .i64 a0_4, .int .i64 a0_5, .int .i64 a0_6] 25 (0, 0)) (by (with_reducible repeat (first | refine blk_drewN ?_ _ | refine blk_drew ?_ | refine blk_alloc ?_ _)); exact BK369.out) hb); have n1_ := Aside0.mk (blk_below (g := gb370) (o := .cells #[.int .i64 a1_0, .int .i64 a1_1] 27 (0, 0)) (by (with_reducible repeat (first | refine blk_drewN ?_ _ | refine blk_drew ?_ | refine blk_alloc ?_ _)); exact BK370.out) hb); have n2_ := Aside0.mk (below_step (by repeat (first | (with_reducible first | exact HB.out | apply below_alloc | apply pw_below_drewN | apply below_drew1 | refine below_set ?_ GE369.out | refine below_set ?_ GE370.out) | exact HB.out)) hb); clear BK369; clear BK370; clear HB; have BK369 := n0_; have BK370 := n1_; have HB := n2_; clear n0_ n1_ n2_; (try clear hb); (try clear hb2); (try clear hk); (try clear hi)))
          go_ret
          exact ⟨by first | rfl | (simp [errW_none, errW_some] <;> rfl) | (simp [*, errW_none, errW_some] <;> rfl), by repeat (first | (with_reducible first | exact HB.out | apply below_alloc | apply pw_below_drewN | apply below_drew1 | refine below_set ?_ GE369.out | refine below_set ?_ GE370.out) | exact HB.out)⟩
end Go.Proofs.Ytdpihbhkghjclaa.P
end
section
/- The pure statement of GuardSlots. Conditions: none. -/
namespace Go.Proofs.Ytdpihbhkghjclaa.P
open Go.RowKit Go.Proofs.YtdpihbhkghjclaaW.PrintWords Go.Proofs.YtdpihbhkghjclaaW.PrintLast Go.Proofs.YtdpihbhkghjclaaW.PrintMore
set_option linter.unusedVariables false
set_option linter.unusedSimpArgs false
theorem GuardSlots_pure : ∀ (a0_0 : Bool) (a0_1 : Int) (a0_2 : Int) (a0_3 : Int) (a0_4 : Int) (a0_5 : Int) (a0_6 : Int) (a1_0 : Int) (a1_1 : Int) (a2 : Int), (Lit.int .i64 a0_1).wf = true → (Lit.int .i64 a0_2).wf = true → (Lit.int .i64 a0_3).wf = true → (Lit.int .i64 a0_4).wf = true → (Lit.int .i64 a0_5).wf = true → (Lit.int .i64 a0_6).wf = true → (Lit.int .i64 a1_0).wf = true → (Lit.int .i64 a1_1).wf = true → (Lit.int .i64 a2).wf = true → ∃ k, slotmeshlaw10_GuardSlots.f k a0_0 a0_1 a0_2 a0_3 a0_4 a0_5 a0_6 a1_0 a1_1 a2 = some true := by
  intro sy l h a ho so he off d asn
  intros
  refine ⟨60, ?_⟩
  unfold slotmeshlaw10_GuardSlots.f
  rw [ghead]
  simp only [Option.bind_some]
  have stop : ∀ q, q = true → slotmeshlaw10_GuardSlots.j0 60 asn true q sy l h a ho so he off d = some true := by
    intro q e; subst e; rw [show (60 : Nat) = 59 + 1 from rfl]; simp [slotmeshlaw10_GuardSlots.j0]
  by_cases c1 : asn < 0
  · rw [if_pos c1]; exact stop _ rfl
  rw [if_neg c1]
  by_cases c2 : asn ≥ 999999999
  · rw [decide_eq_true c2]; exact stop _ rfl
  rw [decide_eq_false c2, show (60 : Nat) = 59 + 1 from rfl]
  simp only [slotmeshlaw10_GuardSlots.j0, Bool.false_eq_true, if_false]
  rw [show (59 : Nat) = 8 + 51 from rfl, w64 (x := asn + 1) (by omega), Send_eq, Send_eq]
  simp only [Option.bind_some, if_true]
  by_cases e : (SL sy l h a ho so he off d asn).2.2 = 0
  · by_cases e' : (SL sy l h a ho so he off d (asn + 1)).2.2 = 0
    · obtain ⟨e1, e2, e3, e4, e5, e6, e7⟩ := SL_ok e
      obtain ⟨g1, g2, g3, g4, g5, g6, g7⟩ := SL_ok e'
      have ow : OW l h ho (asn + 1) = OW l h ho asn + 10000 := by unfold OW; split <;> omega
      rw [ow] at g5 g6 g7
      have ap := fun z => slots_apart (x := OW l h ho asn) e1 z e6 g6
      have f1 := (FT_spec e1 (OW l h ho asn)).1.1
      have f2 := (FT_spec e1 (OW l h ho asn + 10000)).1.1
      rw [if_pos e, if_pos e', e7, g7]
      generalize FT off d (OW l h ho asn) = n at *
      generalize FT off d (OW l h ho asn + 10000) = n' at *
      dsimp only
      rw [if_pos rfl, if_pos rfl, w64 (x := -asn) (by omega), w64 (x := -asn * 10000) (by omega)]
      by_cases z : n - asn * 10000 = -asn * 10000
      · rw [if_pos z]
      · rw [if_neg z]
        have ap' := ap (by omega)
        rw [w64 (x := n' - (asn + 1) * 10000 + 10000) (by omega), w64 (x := n' - (asn + 1) * 10000 + 10000 - (n - asn * 10000)) (by omega), if_pos (by omega), decide_eq_true (by omega)]
    · rw [if_pos e, if_neg e']
      simp [e']
  · rw [if_neg e]
    simp [e]
end Go.Proofs.Ytdpihbhkghjclaa.P
end
section
/- The call of GuardSlots answers true, out of its pure statement. Conditions: none. -/
namespace Go.Proofs.Ytdpihbhkghjclaa.P
open Go.RowKit
theorem GuardSlots_walk (a0_0 : Bool) (a0_1 : Int) (a0_2 : Int) (a0_3 : Int) (a0_4 : Int) (a0_5 : Int) (a0_6 : Int) (a1_0 : Int) (a1_1 : Int) (a2 : Int) (w : World) (w0_1 : (Lit.int .i64 a0_1).wf = true) (w0_2 : (Lit.int .i64 a0_2).wf = true) (w0_3 : (Lit.int .i64 a0_3).wf = true) (w0_4 : (Lit.int .i64 a0_4).wf = true) (w0_5 : (Lit.int .i64 a0_5).wf = true) (w0_6 : (Lit.int .i64 a0_6).wf = true) (w1_0 : (Lit.int .i64 a1_0).wf = true) (w1_1 : (Lit.int .i64 a1_1).wf = true) (w2 : (Lit.int .i64 a2).wf = true) :
    Calls Try.prog 10 #[.agg #[.bool a0_0, .int .i64 a0_1, .int .i64 a0_2, .int .i64 a0_3, .int .i64 a0_4, .int .i64 a0_5, .int .i64 a0_6], .agg #[.int .i64 a1_0, .int .i64 a1_1], .int .i64 a2] w fun e w' => e = .returned (.bool true) ∧ Below w.heap.size w w' := by
  obtain ⟨k, h⟩ := GuardSlots_pure a0_0 a0_1 a0_2 a0_3 a0_4 a0_5 a0_6 a1_0 a1_1 a2 w0_1 w0_2 w0_3 w0_4 w0_5 w0_6 w1_0 w1_1 w2
  refine (slotmeshlaw10_GuardSlots.calls k a0_0 a0_1 a0_2 a0_3 a0_4 a0_5 a0_6 a1_0 a1_1 a2 true w h).mono ?_
  rintro e w' ⟨rfl, hd⟩
  exact ⟨rfl, hd⟩
end Go.Proofs.Ytdpihbhkghjclaa.P
end
