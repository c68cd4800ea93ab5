/- A claim's own texts, laid together by wip/zip.py without what the claim does not use. Conditions: none. -/
import Derived.Test.YtkbfhonoamgjgaaZfpx0
import Derived.Test.YtkbfhonoamgjgaaZfpx19
section
/- The Go functions of this claim as Lean functions, and the proofs that their calls answer so: written by wip/myprint.py over the kit's printer, hand-proved contracts laid in. Conditions: none. -/
namespace Go.Proofs.Ytkbfhonoamgjgaa.P
open Go.RowKit Go.Proofs.YtkbfhonoamgjgaaW.PrintWords Go.Proofs.YtkbfhonoamgjgaaW.PrintLast Go.Proofs.YtkbfhonoamgjgaaW.PrintMore
attribute [local go_sem] max2_int min2_int max_two min_two max_three min_three max_four min_four   -- for this text's walks alone
set_option linter.unusedVariables false
set_option linter.unusedSimpArgs false
/-! ### slotmeshref09_Valid: function 20 -/
def slotmeshref09_Valid.j0 : Nat → Bool → Bool → Int → Int → Int → Int → Int → Int → Option (Bool)
  | 0, _, _, _, _, _, _, _, _ => none
  | k + 1, x20, x262000, x262001, x262002, x262003, x262004, x262005, x262006 => if x20 = true then (some false) else (if x262000 = true then (if x262004 = 0 then (some true) else (if x262004 ≥ 1 then (if x262004 ≤ 60 then ((slotmeshref08_Valid.f x262001 x262002 x262003).bind fun t262 => (some t262)) else (some false)) else (some false))) else (some (x262004 == 60)))
def slotmeshref09_Valid.f (k : Nat) (a0_0 : Bool) (a0_1 : Int) (a0_2 : Int) (a0_3 : Int) (a0_4 : Int) (a0_5 : Int) (a0_6 : Int) : Option (Bool) := if a0_5 < (-1) then (slotmeshref09_Valid.j0 k true a0_0 a0_1 a0_2 a0_3 a0_4 a0_5 a0_6) else (if a0_5 ≥ 60 then (slotmeshref09_Valid.j0 k true a0_0 a0_1 a0_2 a0_3 a0_4 a0_5 a0_6) else (if a0_6 < 0 then (slotmeshref09_Valid.j0 k true a0_0 a0_1 a0_2 a0_3 a0_4 a0_5 a0_6) else (slotmeshref09_Valid.j0 k (decide (a0_6 > 1000000000)) a0_0 a0_1 a0_2 a0_3 a0_4 a0_5 a0_6)))
set_option maxHeartbeats 8000000 in
set_option maxRecDepth 100000 in
theorem slotmeshref09_Valid.calls (k : Nat) (a0_0 : Bool) (a0_1 : Int) (a0_2 : Int) (a0_3 : Int) (a0_4 : Int) (a0_5 : Int) (a0_6 : Int) (r : Bool) (w : World) (h : slotmeshref09_Valid.f k a0_0 a0_1 a0_2 a0_3 a0_4 a0_5 a0_6 = some r) :
    Calls Try.prog 20 #[.agg #[.bool a0_0, .int .i64 a0_1, .int .i64 a0_2, .int .i64 a0_3, .int .i64 a0_4, .int .i64 a0_5, .int .i64 a0_6]] w fun e w' => e = .returned (.bool r) ∧ Below w.heap.size w w' := by
  have hu25 := Try.underlying25
  have hu23 := Try.underlying23
  have HB := Aside0.mk (Below.refl w.heap.size w)
  have H : (if a0_5 < (-1) then (slotmeshref09_Valid.j0 k true a0_0 a0_1 a0_2 a0_3 a0_4 a0_5 a0_6) else (if a0_5 ≥ 60 then (slotmeshref09_Valid.j0 k true a0_0 a0_1 a0_2 a0_3 a0_4 a0_5 a0_6) else (if a0_6 < 0 then (slotmeshref09_Valid.j0 k true a0_0 a0_1 a0_2 a0_3 a0_4 a0_5 a0_6) else (slotmeshref09_Valid.j0 k (decide (a0_6 > 1000000000)) a0_0 a0_1 a0_2 a0_3 a0_4 a0_5 a0_6)))) = some r := h
  clear h
  have HC2 := Aside0.mk H
  clear H
  go_enter Try.func20, Try.ntmps20
  go_upto_region 1 with (first | ((with_reducible refine gate_dst (N := 1) rfl ?_); refine box_event ?hg (N := 1) ?hd (cs := #[.bool a0_0, .int .i64 a0_1, .int .i64 a0_2, .int .i64 a0_3, .int .i64 a0_4, .int .i64 a0_5, .int .i64 a0_6]) (t := 25) ?hr ?_; (case hd => rfl); (case hg => rfl); (case hr => first | (go_simp; done) | (go_simp; rfl)); intro gb261 hg w3 hbox hb; have n0_ := Aside0.mk (below_step (by repeat (first | (with_reducible first | exact HB.out | apply below_alloc | apply pw_below_drewN | apply below_drew1) | exact HB.out)) hb); have n1_ := Aside0.mk (hbox); have n2_ := Aside0.mk ((by rw [hg]; exact (below_size (by repeat (first | (with_reducible first | exact HB.out | apply below_alloc | apply pw_below_drewN | apply below_drew1) | exact HB.out))) : w.heap.size ≤ gb261)); have n3_ := Aside0.mk ((by rw [hg]; exact (below_size (by repeat (first | (with_reducible first | exact HB.out | apply below_alloc | apply pw_below_drewN | apply below_drew1) | exact HB.out))) : w.heap.size ≤ gb261)); clear HB; have HB := n0_; have BK261 := n1_; have GW261 := n2_; have GE261 := n3_; clear n0_ n1_ n2_ n3_; clear hb hbox hg))
  (try simp only [Act.put, List.setIfInBounds_toArray, List.set_cons_zero, List.set_cons_succ])
  go_cut [20] (fun v20 wc => ∃ (kq : Nat) (x20_1 : Bool), v20 = .bool x20_1 ∧ Aside0 (slotmeshref09_Valid.j0 kq x20_1 a0_0 a0_1 a0_2 a0_3 a0_4 a0_5 a0_6 = some r) ∧ Aside0 (kq ≤ k) ∧ Aside0 (wc.heap[gb261]? = some (.cells #[.bool a0_0, .int .i64 a0_1, .int .i64 a0_2, .int .i64 a0_3, .int .i64 a0_4, .int .i64 a0_5, .int .i64 a0_6] 25 (0, 0))) ∧ Aside0 (Below w.heap.size w wc))
  case first =>
    have H := HC2.out
    clear HC2
    by_cases c4 : a0_5 < (-1)
    · rw [if_pos c4] at H
      have c4b0 : decide (a0_5 < (-1)) = true := decide_eq_true c4
      clear c4
      (first | rw [c4b0] | (simp only [i64_w, i32_w]; rw [c4b0]) | skip)
      have H' := Aside0.mk H
      clear H
      have hcz5_0 : w3.cell? ⟨gb261, 0, none⟩ = some (.bool a0_0) := (blk_cell BK261.out 0).trans rfl
      have hcz5_1 : w3.cell? ⟨gb261, 1, none⟩ = some (.int .i64 a0_1) := (blk_cell BK261.out 1).trans rfl
      have hcz5_2 : w3.cell? ⟨gb261, 2, none⟩ = some (.int .i64 a0_2) := (blk_cell BK261.out 2).trans rfl
      have hcz5_3 : w3.cell? ⟨gb261, 3, none⟩ = some (.int .i64 a0_3) := (blk_cell BK261.out 3).trans rfl
      have hcz5_4 : w3.cell? ⟨gb261, 4, none⟩ = some (.int .i64 a0_4) := (blk_cell BK261.out 4).trans rfl
      have hcz5_5 : w3.cell? ⟨gb261, 5, none⟩ = some (.int .i64 a0_5) := (blk_cell BK261.out 5).trans rfl
      have hcz5_6 : w3.cell? ⟨gb261, 6, none⟩ = some (.int .i64 a0_6) := (blk_cell BK261.out 6).trans rfl
      have hfz5_0 := blk_frozen BK261.out 0
      have hfz5_1 := blk_frozen BK261.out 1
      have hfz5_2 := blk_frozen BK261.out 2
      have hfz5_3 := blk_frozen BK261.out 3
      have hfz5_4 := blk_frozen BK261.out 4
      have hfz5_5 := blk_frozen BK261.out 5
      have hfz5_6 := blk_frozen BK261.out 6
      go_wp2
      go_meet
      case rel => exact ⟨_, (true), (by first | rfl | (simp; done) | (simp [*]; done)), H', ⟨by first | omega | exact Nat.le_refl _⟩, ⟨by (with_reducible repeat (first | refine blk_drewN ?_ _ | refine blk_drew ?_ | refine blk_alloc ?_ _)); exact BK261.out⟩, ⟨by repeat (first | (with_reducible first | exact HB.out | apply below_alloc | apply pw_below_drewN | apply below_drew1 | refine below_set ?_ GE261.out) | exact HB.out)⟩⟩
    · rw [if_neg c4] at H
      have c4b0 : decide (a0_5 < (-1)) = false := decide_eq_false c4
      clear c4
      (first | rw [c4b0] | (simp only [i64_w, i32_w]; rw [c4b0]) | skip)
      by_cases c6 : a0_5 ≥ 60
      · rw [if_pos c6] at H
        have c6b0 : decide (60 ≤ a0_5) = true := decide_eq_true c6
        clear c6
        have H' := Aside0.mk H
        clear H
        have hcz7_0 : w3.cell? ⟨gb261, 0, none⟩ = some (.bool a0_0) := (blk_cell BK261.out 0).trans rfl
        have hcz7_1 : w3.cell? ⟨gb261, 1, none⟩ = some (.int .i64 a0_1) := (blk_cell BK261.out 1).trans rfl
        have hcz7_2 : w3.cell? ⟨gb261, 2, none⟩ = some (.int .i64 a0_2) := (blk_cell BK261.out 2).trans rfl
        have hcz7_3 : w3.cell? ⟨gb261, 3, none⟩ = some (.int .i64 a0_3) := (blk_cell BK261.out 3).trans rfl
        have hcz7_4 : w3.cell? ⟨gb261, 4, none⟩ = some (.int .i64 a0_4) := (blk_cell BK261.out 4).trans rfl
        have hcz7_5 : w3.cell? ⟨gb261, 5, none⟩ = some (.int .i64 a0_5) := (blk_cell BK261.out 5).trans rfl
        have hcz7_6 : w3.cell? ⟨gb261, 6, none⟩ = some (.int .i64 a0_6) := (blk_cell BK261.out 6).trans rfl
        have hfz7_0 := blk_frozen BK261.out 0
        have hfz7_1 := blk_frozen BK261.out 1
        have hfz7_2 := blk_frozen BK261.out 2
        have hfz7_3 := blk_frozen BK261.out 3
        have hfz7_4 := blk_frozen BK261.out 4
        have hfz7_5 := blk_frozen BK261.out 5
        have hfz7_6 := blk_frozen BK261.out 6
        go_wp2
        go_meet
        case rel => exact ⟨_, (true), (by first | rfl | (simp; done) | (simp [*]; done)), H', ⟨by first | omega | exact Nat.le_refl _⟩, ⟨by (with_reducible repeat (first | refine blk_drewN ?_ _ | refine blk_drew ?_ | refine blk_alloc ?_ _)); exact BK261.out⟩, ⟨by repeat (first | (with_reducible first | exact HB.out | apply below_alloc | apply pw_below_drewN | apply below_drew1 | refine below_set ?_ GE261.out) | exact HB.out)⟩⟩
      · rw [if_neg c6] at H
        have c6b0 : decide (60 ≤ a0_5) = false := decide_eq_false c6
        clear c6
        by_cases c8 : a0_6 < 0
        · rw [if_pos c8] at H
          have c8b0 : decide (a0_6 < 0) = true := decide_eq_true c8
          clear c8
          have H' := Aside0.mk H
          clear H
          have hcz9_0 : w3.cell? ⟨gb261, 0, none⟩ = some (.bool a0_0) := (blk_cell BK261.out 0).trans rfl
          have hcz9_1 : w3.cell? ⟨gb261, 1, none⟩ = some (.int .i64 a0_1) := (blk_cell BK261.out 1).trans rfl
          have hcz9_2 : w3.cell? ⟨gb261, 2, none⟩ = some (.int .i64 a0_2) := (blk_cell BK261.out 2).trans rfl
          have hcz9_3 : w3.cell? ⟨gb261, 3, none⟩ = some (.int .i64 a0_3) := (blk_cell BK261.out 3).trans rfl
          have hcz9_4 : w3.cell? ⟨gb261, 4, none⟩ = some (.int .i64 a0_4) := (blk_cell BK261.out 4).trans rfl
          have hcz9_5 : w3.cell? ⟨gb261, 5, none⟩ = some (.int .i64 a0_5) := (blk_cell BK261.out 5).trans rfl
          have hcz9_6 : w3.cell? ⟨gb261, 6, none⟩ = some (.int .i64 a0_6) := (blk_cell BK261.out 6).trans rfl
          have hfz9_0 := blk_frozen BK261.out 0
          have hfz9_1 := blk_frozen BK261.out 1
          have hfz9_2 := blk_frozen BK261.out 2
          have hfz9_3 := blk_frozen BK261.out 3
          have hfz9_4 := blk_frozen BK261.out 4
          have hfz9_5 := blk_frozen BK261.out 5
          have hfz9_6 := blk_frozen BK261.out 6
          go_wp2
          go_meet
          case rel => exact ⟨_, (true), (by first | rfl | (simp; done) | (simp [*]; done)), H', ⟨by first | omega | exact Nat.le_refl _⟩, ⟨by (with_reducible repeat (first | refine blk_drewN ?_ _ | refine blk_drew ?_ | refine blk_alloc ?_ _)); exact BK261.out⟩, ⟨by repeat (first | (with_reducible first | exact HB.out | apply below_alloc | apply pw_below_drewN | apply below_drew1 | refine below_set ?_ GE261.out) | exact HB.out)⟩⟩
        · rw [if_neg c8] at H
          have c8b0 : decide (a0_6 < 0) = false := decide_eq_false c8
          clear c8
          have H' := Aside0.mk H
          clear H
          have hcz10_0 : w3.cell? ⟨gb261, 0, none⟩ = some (.bool a0_0) := (blk_cell BK261.out 0).trans rfl
          have hcz10_1 : w3.cell? ⟨gb261, 1, none⟩ = some (.int .i64 a0_1) := (blk_cell BK261.out 1).trans rfl
          have hcz10_2 : w3.cell? ⟨gb261, 2, none⟩ = some (.int .i64 a0_2) := (blk_cell BK261.out 2).trans rfl
          have hcz10_3 : w3.cell? ⟨gb261, 3, none⟩ = some (.int .i64 a0_3) := (blk_cell BK261.out 3).trans rfl
          have hcz10_4 : w3.cell? ⟨gb261, 4, none⟩ = some (.int .i64 a0_4) := (blk_cell BK261.out 4).trans rfl
          have hcz10_5 : w3.cell? ⟨gb261, 5, none⟩ = some (.int .i64 a0_5) := (blk_cell BK261.out 5).trans rfl
          have hcz10_6 : w3.cell? ⟨gb261, 6, none⟩ = some (.int .i64 a0_6) := (blk_cell BK261.out 6).trans rfl
          have hfz10_0 := blk_frozen BK261.out 0
          have hfz10_1 := blk_frozen BK261.out 1
          have hfz10_2 := blk_frozen BK261.out 2
          have hfz10_3 := blk_frozen BK261.out 3
          have hfz10_4 := blk_frozen BK261.out 4
          have hfz10_5 := blk_frozen BK261.out 5
          have hfz10_6 := blk_frozen BK261.out 6
          go_wp2
          go_meet
          case rel => exact ⟨_, (decide (a0_6 > 1000000000)), (by first | rfl | (simp; done) | (simp [*]; done)), H', ⟨by first | omega | exact Nat.le_refl _⟩, ⟨by (with_reducible repeat (first | refine blk_drewN ?_ _ | refine blk_drew ?_ | refine blk_alloc ?_ _)); exact BK261.out⟩, ⟨by repeat (first | (with_reducible first | exact HB.out | apply below_alloc | apply pw_below_drewN | apply below_drew1 | refine below_set ?_ GE261.out) | exact HB.out)⟩⟩
  case rest =>
    clear HC2
    try clear c2
    try clear p2
    try clear c4
    try clear c4b0
    try clear c6
    try clear c6b0
    try clear c8
    try clear c8b0
    try clear hcz10_0
    try clear hcz10_1
    try clear hcz10_2
    try clear hcz10_3
    try clear hcz10_4
    try clear hcz10_5
    try clear hcz10_6
    try clear hcz5_0
    try clear hcz5_1
    try clear hcz5_2
    try clear hcz5_3
    try clear hcz5_4
    try clear hcz5_5
    try clear hcz5_6
    try clear hcz7_0
    try clear hcz7_1
    try clear hcz7_2
    try clear hcz7_3
    try clear hcz7_4
    try clear hcz7_5
    try clear hcz7_6
    try clear hcz9_0
    try clear hcz9_1
    try clear hcz9_2
    try clear hcz9_3
    try clear hcz9_4
    try clear hcz9_5
    try clear hcz9_6
    try clear hfz10_0
    try clear hfz10_1
    try clear hfz10_2
    try clear hfz10_3
    try clear hfz10_4
    try clear hfz10_5
    try clear hfz10_6
    try clear hfz5_0
    try clear hfz5_1
    try clear hfz5_2
    try clear hfz5_3
    try clear hfz5_4
    try clear hfz5_5
    try clear hfz5_6
    try clear hfz7_0
    try clear hfz7_1
    try clear hfz7_2
    try clear hfz7_3
    try clear hfz7_4
    try clear hfz7_5
    try clear hfz7_6
    try clear hfz9_0
    try clear hfz9_1
    try clear hfz9_2
    try clear hfz9_3
    try clear hfz9_4
    try clear hfz9_5
    try clear hfz9_6
    obtain ⟨kq, x20_1, rfl, HA, HJ1, BK261, HB⟩ := hcut
    cases kq with
    | zero => exact absurd HA.out (by simp [slotmeshref09_Valid.j0])
    | succ kj1 =>
      have H := HA.out
      clear HA
      simp only [slotmeshref09_Valid.j0] at H
      by_cases c11 : x20_1 = true
      · subst c11
        have H1 : (some false) = some r := by rw [if_pos rfl] at H; exact H
        clear H
        have H := H1
        clear H1
        obtain rfl := Option.some.inj H
        go_wp2
        go_ret
        exact ⟨by first | rfl | (simp [errW_none, errW_some] <;> rfl) | (simp [*, errW_none, errW_some] <;> rfl), by repeat (first | (with_reducible first | exact HB.out | apply below_alloc | apply pw_below_drewN | apply below_drew1 | refine below_set ?_ GE261.out) | exact HB.out)⟩
      · replace c11 := Bool.eq_false_iff.mpr c11
        subst c11
        have H1 : (if a0_0 = true then (if a0_4 = 0 then (some true) else (if a0_4 ≥ 1 then (if a0_4 ≤ 60 then ((slotmeshref08_Valid.f a0_1 a0_2 a0_3).bind fun t262 => (some t262)) else (some false)) else (some false))) else (some (a0_4 == 60))) = some r := by rw [if_neg (show ¬ (false = true) by decide)] at H; exact H
        clear H
        have H := H1
        clear H1
        by_cases c12 : a0_0 = true
        · subst c12
          have H1 : (if a0_4 = 0 then (some true) else (if a0_4 ≥ 1 then (if a0_4 ≤ 60 then ((slotmeshref08_Valid.f a0_1 a0_2 a0_3).bind fun t262 => (some t262)) else (some false)) else (some false))) = some r := by rw [if_pos rfl] at H; exact H
          clear H
          have H := H1
          clear H1
          by_cases c13 : a0_4 = 0
          · rw [if_pos c13] at H
            have c13b0 : (a0_4 == 0) = true := beq_iff_eq.mpr c13
            have c13b1 : (a0_4 != 0) = false := bne_eq_false_iff_eq.mpr c13
            clear c13
            obtain rfl := Option.some.inj H
            have hcz14_0 : wc.cell? ⟨gb261, 0, none⟩ = some (.bool true) := (blk_cell BK261.out 0).trans rfl
            have hcz14_1 : wc.cell? ⟨gb261, 1, none⟩ = some (.int .i64 a0_1) := (blk_cell BK261.out 1).trans rfl
            have hcz14_2 : wc.cell? ⟨gb261, 2, none⟩ = some (.int .i64 a0_2) := (blk_cell BK261.out 2).trans rfl
            have hcz14_3 : wc.cell? ⟨gb261, 3, none⟩ = some (.int .i64 a0_3) := (blk_cell BK261.out 3).trans rfl
            have hcz14_4 : wc.cell? ⟨gb261, 4, none⟩ = some (.int .i64 a0_4) := (blk_cell BK261.out 4).trans rfl
            have hcz14_5 : wc.cell? ⟨gb261, 5, none⟩ = some (.int .i64 a0_5) := (blk_cell BK261.out 5).trans rfl
            have hcz14_6 : wc.cell? ⟨gb261, 6, none⟩ = some (.int .i64 a0_6) := (blk_cell BK261.out 6).trans rfl
            have hfz14_0 := blk_frozen BK261.out 0
            have hfz14_1 := blk_frozen BK261.out 1
            have hfz14_2 := blk_frozen BK261.out 2
            have hfz14_3 := blk_frozen BK261.out 3
            have hfz14_4 := blk_frozen BK261.out 4
            have hfz14_5 := blk_frozen BK261.out 5
            have hfz14_6 := blk_frozen BK261.out 6
            go_wp2
            go_ret
            exact ⟨by first | rfl | (simp [errW_none, errW_some] <;> rfl) | (simp [*, errW_none, errW_some] <;> rfl), by repeat (first | (with_reducible first | exact HB.out | apply below_alloc | apply pw_below_drewN | apply below_drew1 | refine below_set ?_ GE261.out) | exact HB.out)⟩
          · rw [if_neg c13] at H
            have c13b0 : (a0_4 == 0) = false := beq_eq_false_iff_ne.mpr c13
            have c13b1 : (a0_4 != 0) = true := bne_iff_ne.mpr c13
            by_cases c15 : a0_4 ≥ 1
            · rw [if_pos c15] at H
              have c15b0 : decide (1 ≤ a0_4) = true := decide_eq_true c15
              clear c15
              by_cases c16 : a0_4 ≤ 60
              · rw [if_pos c16] at H
                have c16b0 : decide (a0_4 ≤ 60) = true := decide_eq_true c16
                clear c16
                replace H := Option.bind_eq_some_iff.mp H
                obtain ⟨t262, A170, H⟩ := H
                replace H : (some t262) = some r := H
                have A17 := Aside0.mk A170
                clear A170
                obtain rfl := Option.some.inj H
                have hcz18_0 : wc.cell? ⟨gb261, 0, none⟩ = some (.bool true) := (blk_cell BK261.out 0).trans rfl
                have hcz18_1 : wc.cell? ⟨gb261, 1, none⟩ = some (.int .i64 a0_1) := (blk_cell BK261.out 1).trans rfl
                have hcz18_2 : wc.cell? ⟨gb261, 2, none⟩ = some (.int .i64 a0_2) := (blk_cell BK261.out 2).trans rfl
                have hcz18_3 : wc.cell? ⟨gb261, 3, none⟩ = some (.int .i64 a0_3) := (blk_cell BK261.out 3).trans rfl
                have hcz18_4 : wc.cell? ⟨gb261, 4, none⟩ = some (.int .i64 a0_4) := (blk_cell BK261.out 4).trans rfl
                have hcz18_5 : wc.cell? ⟨gb261, 5, none⟩ = some (.int .i64 a0_5) := (blk_cell BK261.out 5).trans rfl
                have hcz18_6 : wc.cell? ⟨gb261, 6, none⟩ = some (.int .i64 a0_6) := (blk_cell BK261.out 6).trans rfl
                have hfz18_0 := blk_frozen BK261.out 0
                have hfz18_1 := blk_frozen BK261.out 1
                have hfz18_2 := blk_frozen BK261.out 2
                have hfz18_3 := blk_frozen BK261.out 3
                have hfz18_4 := blk_frozen BK261.out 4
                have hfz18_5 := blk_frozen BK261.out 5
                have hfz18_6 := blk_frozen BK261.out 6
                go_wp2_with (first | (go_at_call 38; (with_reducible refine (slotmeshref08_Valid.calls a0_1 a0_2 a0_3 t262 _ A17.out).mono ?_); rintro e w19 ⟨rfl, hb⟩; have n0_ := Aside0.mk (blk_below (g := gb261) (o := .cells #[.bool true, .int .i64 a0_1, .int .i64 a0_2, .int .i64 a0_3, .int .i64 a0_4, .int .i64 a0_5, .int .i64 a0_6] 25 (0, 0)) (by (with_reducible repeat (first | refine blk_drewN ?_ _ | refine blk_drew ?_ | refine blk_alloc ?_ _)); exact BK261.out) hb); have n1_ := Aside0.mk (below_step (by repeat (first | (with_reducible first | exact HB.out | apply below_alloc | apply pw_below_drewN | apply below_drew1 | refine below_set ?_ GE261.out) | exact HB.out)) hb); clear BK261; clear HB; have BK261 := n0_; have HB := n1_; clear n0_ n1_; (try clear hb); (try clear hb2); (try clear hk); (try clear hi)))
                go_ret
                exact ⟨by first | rfl | (simp [errW_none, errW_some] <;> rfl) | (simp [*, errW_none, errW_some] <;> rfl), by repeat (first | (with_reducible first | exact HB.out | apply below_alloc | apply pw_below_drewN | apply below_drew1 | refine below_set ?_ GE261.out) | exact HB.out)⟩
              · rw [if_neg c16] at H
                have c16b0 : decide (a0_4 ≤ 60) = false := decide_eq_false c16
                clear c16
                obtain rfl := Option.some.inj H
                have hcz20_0 : wc.cell? ⟨gb261, 0, none⟩ = some (.bool true) := (blk_cell BK261.out 0).trans rfl
                have hcz20_1 : wc.cell? ⟨gb261, 1, none⟩ = some (.int .i64 a0_1) := (blk_cell BK261.out 1).trans rfl
                have hcz20_2 : wc.cell? ⟨gb261, 2, none⟩ = some (.int .i64 a0_2) := (blk_cell BK261.out 2).trans rfl
                have hcz20_3 : wc.cell? ⟨gb261, 3, none⟩ = some (.int .i64 a0_3) := (blk_cell BK261.out 3).trans rfl
                have hcz20_4 : wc.cell? ⟨gb261, 4, none⟩ = some (.int .i64 a0_4) := (blk_cell BK261.out 4).trans rfl
                have hcz20_5 : wc.cell? ⟨gb261, 5, none⟩ = some (.int .i64 a0_5) := (blk_cell BK261.out 5).trans rfl
                have hcz20_6 : wc.cell? ⟨gb261, 6, none⟩ = some (.int .i64 a0_6) := (blk_cell BK261.out 6).trans rfl
                have hfz20_0 := blk_frozen BK261.out 0
                have hfz20_1 := blk_frozen BK261.out 1
                have hfz20_2 := blk_frozen BK261.out 2
                have hfz20_3 := blk_frozen BK261.out 3
                have hfz20_4 := blk_frozen BK261.out 4
                have hfz20_5 := blk_frozen BK261.out 5
                have hfz20_6 := blk_frozen BK261.out 6
                go_wp2
                go_ret
                exact ⟨by first | rfl | (simp [errW_none, errW_some] <;> rfl) | (simp [*, errW_none, errW_some] <;> rfl), by repeat (first | (with_reducible first | exact HB.out | apply below_alloc | apply pw_below_drewN | apply below_drew1 | refine below_set ?_ GE261.out) | exact HB.out)⟩
            · rw [if_neg c15] at H
              have c15b0 : decide (1 ≤ a0_4) = false := decide_eq_false c15
              clear c15
              obtain rfl := Option.some.inj H
              have hcz21_0 : wc.cell? ⟨gb261, 0, none⟩ = some (.bool true) := (blk_cell BK261.out 0).trans rfl
              have hcz21_1 : wc.cell? ⟨gb261, 1, none⟩ = some (.int .i64 a0_1) := (blk_cell BK261.out 1).trans rfl
              have hcz21_2 : wc.cell? ⟨gb261, 2, none⟩ = some (.int .i64 a0_2) := (blk_cell BK261.out 2).trans rfl
              have hcz21_3 : wc.cell? ⟨gb261, 3, none⟩ = some (.int .i64 a0_3) := (blk_cell BK261.out 3).trans rfl
              have hcz21_4 : wc.cell? ⟨gb261, 4, none⟩ = some (.int .i64 a0_4) := (blk_cell BK261.out 4).trans rfl
              have hcz21_5 : wc.cell? ⟨gb261, 5, none⟩ = some (.int .i64 a0_5) := (blk_cell BK261.out 5).trans rfl
              have hcz21_6 : wc.cell? ⟨gb261, 6, none⟩ = some (.int .i64 a0_6) := (blk_cell BK261.out 6).trans rfl
              have hfz21_0 := blk_frozen BK261.out 0
              have hfz21_1 := blk_frozen BK261.out 1
              have hfz21_2 := blk_frozen BK261.out 2
              have hfz21_3 := blk_frozen BK261.out 3
              have hfz21_4 := blk_frozen BK261.out 4
              have hfz21_5 := blk_frozen BK261.out 5
              have hfz21_6 := blk_frozen BK261.out 6
              go_wp2
              go_ret
              exact ⟨by first | rfl | (simp [errW_none, errW_some] <;> rfl) | (simp [*, errW_none, errW_some] <;> rfl), by repeat (first | (with_reducible first | exact HB.out | apply below_alloc | apply pw_below_drewN | apply below_drew1 | refine below_set ?_ GE261.out) | exact HB.out)⟩
        · replace c12 := Bool.eq_false_iff.mpr c12
          subst c12
          have H1 : (some (a0_4 == 60)) = some r := by rw [if_neg (show ¬ (false = true) by decide)] at H; exact H
          clear H
          have H := H1
          clear H1
          obtain rfl := Option.some.inj H
          have hcz22_0 : wc.cell? ⟨gb261, 0, none⟩ = some (.bool false) := (blk_cell BK261.out 0).trans rfl
          have hcz22_1 : wc.cell? ⟨gb261, 1, none⟩ = some (.int .i64 a0_1) := (blk_cell BK261.out 1).trans rfl
          have hcz22_2 : wc.cell? ⟨gb261, 2, none⟩ = some (.int .i64 a0_2) := (blk_cell BK261.out 2).trans rfl
          have hcz22_3 : wc.cell? ⟨gb261, 3, none⟩ = some (.int .i64 a0_3) := (blk_cell BK261.out 3).trans rfl
          have hcz22_4 : wc.cell? ⟨gb261, 4, none⟩ = some (.int .i64 a0_4) := (blk_cell BK261.out 4).trans rfl
          have hcz22_5 : wc.cell? ⟨gb261, 5, none⟩ = some (.int .i64 a0_5) := (blk_cell BK261.out 5).trans rfl
          have hcz22_6 : wc.cell? ⟨gb261, 6, none⟩ = some (.int .i64 a0_6) := (blk_cell BK261.out 6).trans rfl
          have hfz22_0 := blk_frozen BK261.out 0
          have hfz22_1 := blk_frozen BK261.out 1
          have hfz22_2 := blk_frozen BK261.out 2
          have hfz22_3 := blk_frozen BK261.out 3
          have hfz22_4 := blk_frozen BK261.out 4
          have hfz22_5 := blk_frozen BK261.out 5
          have hfz22_6 := blk_frozen BK261.out 6
          go_wp2
          go_ret
          exact ⟨by first | rfl | (simp [errW_none, errW_some] <;> rfl) | (simp [*, errW_none, errW_some] <;> rfl), by repeat (first | (with_reducible first | exact HB.out | apply below_alloc | apply pw_below_drewN | apply below_drew1 | refine below_set ?_ GE261.out) | exact HB.out)⟩
end Go.Proofs.Ytkbfhonoamgjgaa.P
end
